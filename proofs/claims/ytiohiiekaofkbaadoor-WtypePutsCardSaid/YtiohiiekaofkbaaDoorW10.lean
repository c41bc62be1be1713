/- The walk of WtypePuts: region 11. -/
import Derived.Test.YtiohiiekaofkbaaDoorW9
namespace Go.Proofs.YtiohiiekaofkbaaDoor
set_option linter.unusedVariables false
set_option linter.unusedSimpArgs false
open Go.RowKit Go.Proofs.YtiohiiekaofkbaaDoor.PWtypePuts Go.Proofs.YtiohiiekaofkbaaDoorW.PrintWords

/- The operations of the regions that draw. -/
def hop4_11_ops : Array Oper := #[{ dst := some 175, op := Go.Op.move (Go.Operand.tmp 11), type := 4, pos := "law.go:106", after := #[], guard := none },
    { dst := some 176, op := Go.Op.unOp Go.UnOp.not 4 (Go.Operand.tmp 175), type := 4, pos := "law.go:106", after := #[{ on := 0, ground := Go.Ground.data }], guard := none },
    { dst := some 177, op := Go.Op.move (Go.Operand.tmp 176), type := 4, pos := "law.go:106", after := #[{ on := 1, ground := Go.Ground.data }], guard := none },
    { dst := some 178, op := Go.Op.load 62 (Go.Operand.tmp 7), type := 62, pos := "law.go:106", after := #[{ on := 2, ground := Go.Ground.guard }], guard := some (2, false) },
    { dst := some 179, op := Go.Op.call { callee := Go.Callee.value (Go.Operand.func 38), args := #[Go.Operand.tmp 178, Go.Operand.const (Go.Value.slice none 0 0)], argTypes := #[62, 70] }, type := 70, pos := "law.go:106", after := #[{ on := 3, ground := Go.Ground.data }, { on := 2, ground := Go.Ground.chain }, { on := 2, ground := Go.Ground.guard }], guard := some (2, false) },
    { dst := some 180, op := Go.Op.convert 70 9 (Go.Operand.tmp 179), type := 9, pos := "law.go:106", after := #[{ on := 4, ground := Go.Ground.data }, { on := 2, ground := Go.Ground.guard }], guard := some (2, false) },
    { dst := some 181, op := Go.Op.fieldAddr 53 (Go.Operand.tmp 2) 3, type := 0, pos := "law.go:106", after := #[{ on := 2, ground := Go.Ground.guard }], guard := some (2, false) },
    { dst := some 182, op := Go.Op.load 49 (Go.Operand.tmp 181), type := 49, pos := "law.go:106", after := #[{ on := 6, ground := Go.Ground.data }, { on := 2, ground := Go.Ground.guard }], guard := some (2, false) },
    { dst := some 183, op := Go.Op.call { callee := Go.Callee.value (Go.Operand.func 39), args := #[Go.Operand.tmp 182, Go.Operand.const (Go.Value.int Go.IntKind.i64 0)], argTypes := #[49, 3] }, type := 9, pos := "law.go:106", after := #[{ on := 7, ground := Go.Ground.data }, { on := 4, ground := Go.Ground.chain }, { on := 2, ground := Go.Ground.guard }], guard := some (2, false) },
    { dst := some 184, op := Go.Op.binOp Go.BinOp.eql 9 (Go.Operand.tmp 180) (Go.Operand.tmp 183) 9, type := 4, pos := "law.go:106", after := #[{ on := 5, ground := Go.Ground.data }, { on := 8, ground := Go.Ground.data }, { on := 2, ground := Go.Ground.guard }], guard := some (2, false) },
    { dst := some 185, op := Go.Op.pick (Go.Operand.tmp 177) (Go.Operand.const (Go.Value.bool true)) (Go.Operand.tmp 184), type := 4, pos := "law.go:106", after := #[{ on := 2, ground := Go.Ground.data }, { on := 9, ground := Go.Ground.data }], guard := none },
    { dst := some 186, op := Go.Op.move (Go.Operand.tmp 185), type := 4, pos := "law.go:106", after := #[{ on := 10, ground := Go.Ground.data }, { on := 8, ground := Go.Ground.chain }], guard := none },
    { dst := some 187, op := Go.Op.fieldAddr 53 (Go.Operand.tmp 2) 4, type := 0, pos := "law.go:106", after := #[{ on := 11, ground := Go.Ground.guard }], guard := some (11, true) },
    { dst := some 188, op := Go.Op.fieldAddr 51 (Go.Operand.tmp 187) 0, type := 0, pos := "law.go:106", after := #[{ on := 12, ground := Go.Ground.data }, { on := 11, ground := Go.Ground.guard }], guard := some (11, true) },
    { dst := some 189, op := Go.Op.load 5 (Go.Operand.tmp 188), type := 5, pos := "law.go:106", after := #[{ on := 13, ground := Go.Ground.data }, { on := 11, ground := Go.Ground.guard }], guard := some (11, true) },
    { dst := some 190, op := Go.Op.call { callee := Go.Callee.value (Go.Operand.func 28), args := #[Go.Operand.tmp 189], argTypes := #[5] }, type := 4, pos := "law.go:106", after := #[{ on := 14, ground := Go.Ground.data }, { on := 11, ground := Go.Ground.chain }, { on := 11, ground := Go.Ground.guard }], guard := some (11, true) },
    { dst := some 191, op := Go.Op.unOp Go.UnOp.not 4 (Go.Operand.tmp 190), type := 4, pos := "law.go:106", after := #[{ on := 15, ground := Go.Ground.data }, { on := 11, ground := Go.Ground.guard }], guard := some (11, true) },
    { dst := some 192, op := Go.Op.move (Go.Operand.tmp 191), type := 4, pos := "law.go:106", after := #[{ on := 16, ground := Go.Ground.data }, { on := 15, ground := Go.Ground.chain }, { on := 11, ground := Go.Ground.guard }], guard := some (11, true) },
    { dst := some 193, op := Go.Op.load 65 (Go.Operand.tmp 8), type := 65, pos := "law.go:106", after := #[{ on := 17, ground := Go.Ground.guard }], guard := some (17, false) },
    { dst := some 194, op := Go.Op.call { callee := Go.Callee.value (Go.Operand.func 40), args := #[Go.Operand.tmp 193, Go.Operand.const (Go.Value.slice none 0 0)], argTypes := #[65, 70] }, type := 70, pos := "law.go:106", after := #[{ on := 18, ground := Go.Ground.data }, { on := 17, ground := Go.Ground.chain }, { on := 17, ground := Go.Ground.guard }], guard := some (17, false) },
    { dst := some 195, op := Go.Op.convert 70 9 (Go.Operand.tmp 194), type := 9, pos := "law.go:106", after := #[{ on := 19, ground := Go.Ground.data }, { on := 17, ground := Go.Ground.guard }], guard := some (17, false) },
    { dst := some 196, op := Go.Op.fieldAddr 53 (Go.Operand.tmp 2) 4, type := 0, pos := "law.go:106", after := #[{ on := 17, ground := Go.Ground.guard }], guard := some (17, false) },
    { dst := some 197, op := Go.Op.load 51 (Go.Operand.tmp 196), type := 51, pos := "law.go:106", after := #[{ on := 21, ground := Go.Ground.data }, { on := 17, ground := Go.Ground.guard }], guard := some (17, false) },
    { dst := some 198, op := Go.Op.call { callee := Go.Callee.value (Go.Operand.func 41), args := #[Go.Operand.tmp 197], argTypes := #[51] }, type := 9, pos := "law.go:106", after := #[{ on := 22, ground := Go.Ground.data }, { on := 19, ground := Go.Ground.chain }, { on := 17, ground := Go.Ground.guard }], guard := some (17, false) },
    { dst := some 199, op := Go.Op.binOp Go.BinOp.eql 9 (Go.Operand.tmp 195) (Go.Operand.tmp 198) 9, type := 4, pos := "law.go:106", after := #[{ on := 20, ground := Go.Ground.data }, { on := 23, ground := Go.Ground.data }, { on := 17, ground := Go.Ground.guard }], guard := some (17, false) },
    { dst := some 200, op := Go.Op.pick (Go.Operand.tmp 192) (Go.Operand.const (Go.Value.bool true)) (Go.Operand.tmp 199), type := 4, pos := "law.go:106", after := #[{ on := 17, ground := Go.Ground.data }, { on := 24, ground := Go.Ground.data }, { on := 11, ground := Go.Ground.guard }], guard := some (11, true) },
    { dst := some 201, op := Go.Op.pick (Go.Operand.tmp 186) (Go.Operand.tmp 200) (Go.Operand.const (Go.Value.bool false)), type := 4, pos := "law.go:106", after := #[{ on := 11, ground := Go.Ground.data }, { on := 25, ground := Go.Ground.data }], guard := none },
    { dst := some 202, op := Go.Op.move (Go.Operand.tmp 201), type := 4, pos := "law.go:106", after := #[{ on := 26, ground := Go.Ground.data }, { on := 23, ground := Go.Ground.chain }], guard := none },
    { dst := some 203, op := Go.Op.call { callee := Go.Callee.value (Go.Operand.func 42), args := #[], argTypes := #[] }, type := 4, pos := "law.go:106", after := #[{ on := 27, ground := Go.Ground.chain }, { on := 27, ground := Go.Ground.guard }], guard := some (27, true) },
    { dst := some 204, op := Go.Op.pick (Go.Operand.tmp 202) (Go.Operand.tmp 203) (Go.Operand.const (Go.Value.bool false)), type := 4, pos := "law.go:106", after := #[{ on := 27, ground := Go.Ground.data }, { on := 28, ground := Go.Ground.data }], guard := none },
    { dst := some 4, op := Go.Op.assign (Go.Operand.tmp 204), type := 4, pos := "law.go:106", after := #[{ on := 29, ground := Go.Ground.data }, { on := 28, ground := Go.Ground.chain }, { on := 0, ground := Go.Ground.phase }, { on := 1, ground := Go.Ground.phase }, { on := 2, ground := Go.Ground.phase }, { on := 3, ground := Go.Ground.phase }, { on := 4, ground := Go.Ground.phase }, { on := 5, ground := Go.Ground.phase }, { on := 6, ground := Go.Ground.phase }, { on := 7, ground := Go.Ground.phase }, { on := 8, ground := Go.Ground.phase }, { on := 9, ground := Go.Ground.phase }, { on := 10, ground := Go.Ground.phase }, { on := 11, ground := Go.Ground.phase }, { on := 12, ground := Go.Ground.phase }, { on := 13, ground := Go.Ground.phase }, { on := 14, ground := Go.Ground.phase }, { on := 15, ground := Go.Ground.phase }, { on := 16, ground := Go.Ground.phase }, { on := 17, ground := Go.Ground.phase }, { on := 18, ground := Go.Ground.phase }, { on := 19, ground := Go.Ground.phase }, { on := 20, ground := Go.Ground.phase }, { on := 21, ground := Go.Ground.phase }, { on := 22, ground := Go.Ground.phase }, { on := 23, ground := Go.Ground.phase }, { on := 24, ground := Go.Ground.phase }, { on := 25, ground := Go.Ground.phase }, { on := 26, ground := Go.Ground.phase }, { on := 27, ground := Go.Ground.phase }, { on := 28, ground := Go.Ground.phase }, { on := 29, ground := Go.Ground.phase }], guard := none }]
theorem hop4_11_0 : hop4_11_ops[0]? = some { dst := some 175, op := Go.Op.move (Go.Operand.tmp 11), type := 4, pos := "law.go:106", after := #[], guard := none } := rfl
theorem hop4_11_1 : hop4_11_ops[1]? = some { dst := some 176, op := Go.Op.unOp Go.UnOp.not 4 (Go.Operand.tmp 175), type := 4, pos := "law.go:106", after := #[{ on := 0, ground := Go.Ground.data }], guard := none } := rfl
theorem hop4_11_2 : hop4_11_ops[2]? = some { dst := some 177, op := Go.Op.move (Go.Operand.tmp 176), type := 4, pos := "law.go:106", after := #[{ on := 1, ground := Go.Ground.data }], guard := none } := rfl
theorem hop4_11_3 : hop4_11_ops[3]? = some { dst := some 178, op := Go.Op.load 62 (Go.Operand.tmp 7), type := 62, pos := "law.go:106", after := #[{ on := 2, ground := Go.Ground.guard }], guard := some (2, false) } := rfl
theorem hop4_11_4 : hop4_11_ops[4]? = some { dst := some 179, op := Go.Op.call { callee := Go.Callee.value (Go.Operand.func 38), args := #[Go.Operand.tmp 178, Go.Operand.const (Go.Value.slice none 0 0)], argTypes := #[62, 70] }, type := 70, pos := "law.go:106", after := #[{ on := 3, ground := Go.Ground.data }, { on := 2, ground := Go.Ground.chain }, { on := 2, ground := Go.Ground.guard }], guard := some (2, false) } := rfl
theorem hop4_11_5 : hop4_11_ops[5]? = some { dst := some 180, op := Go.Op.convert 70 9 (Go.Operand.tmp 179), type := 9, pos := "law.go:106", after := #[{ on := 4, ground := Go.Ground.data }, { on := 2, ground := Go.Ground.guard }], guard := some (2, false) } := rfl
theorem hop4_11_6 : hop4_11_ops[6]? = some { dst := some 181, op := Go.Op.fieldAddr 53 (Go.Operand.tmp 2) 3, type := 0, pos := "law.go:106", after := #[{ on := 2, ground := Go.Ground.guard }], guard := some (2, false) } := rfl
theorem hop4_11_7 : hop4_11_ops[7]? = some { dst := some 182, op := Go.Op.load 49 (Go.Operand.tmp 181), type := 49, pos := "law.go:106", after := #[{ on := 6, ground := Go.Ground.data }, { on := 2, ground := Go.Ground.guard }], guard := some (2, false) } := rfl
theorem hop4_11_8 : hop4_11_ops[8]? = some { dst := some 183, op := Go.Op.call { callee := Go.Callee.value (Go.Operand.func 39), args := #[Go.Operand.tmp 182, Go.Operand.const (Go.Value.int Go.IntKind.i64 0)], argTypes := #[49, 3] }, type := 9, pos := "law.go:106", after := #[{ on := 7, ground := Go.Ground.data }, { on := 4, ground := Go.Ground.chain }, { on := 2, ground := Go.Ground.guard }], guard := some (2, false) } := rfl
theorem hop4_11_9 : hop4_11_ops[9]? = some { dst := some 184, op := Go.Op.binOp Go.BinOp.eql 9 (Go.Operand.tmp 180) (Go.Operand.tmp 183) 9, type := 4, pos := "law.go:106", after := #[{ on := 5, ground := Go.Ground.data }, { on := 8, ground := Go.Ground.data }, { on := 2, ground := Go.Ground.guard }], guard := some (2, false) } := rfl
theorem hop4_11_10 : hop4_11_ops[10]? = some { dst := some 185, op := Go.Op.pick (Go.Operand.tmp 177) (Go.Operand.const (Go.Value.bool true)) (Go.Operand.tmp 184), type := 4, pos := "law.go:106", after := #[{ on := 2, ground := Go.Ground.data }, { on := 9, ground := Go.Ground.data }], guard := none } := rfl
theorem hop4_11_11 : hop4_11_ops[11]? = some { dst := some 186, op := Go.Op.move (Go.Operand.tmp 185), type := 4, pos := "law.go:106", after := #[{ on := 10, ground := Go.Ground.data }, { on := 8, ground := Go.Ground.chain }], guard := none } := rfl
theorem hop4_11_12 : hop4_11_ops[12]? = some { dst := some 187, op := Go.Op.fieldAddr 53 (Go.Operand.tmp 2) 4, type := 0, pos := "law.go:106", after := #[{ on := 11, ground := Go.Ground.guard }], guard := some (11, true) } := rfl
theorem hop4_11_13 : hop4_11_ops[13]? = some { dst := some 188, op := Go.Op.fieldAddr 51 (Go.Operand.tmp 187) 0, type := 0, pos := "law.go:106", after := #[{ on := 12, ground := Go.Ground.data }, { on := 11, ground := Go.Ground.guard }], guard := some (11, true) } := rfl
theorem hop4_11_14 : hop4_11_ops[14]? = some { dst := some 189, op := Go.Op.load 5 (Go.Operand.tmp 188), type := 5, pos := "law.go:106", after := #[{ on := 13, ground := Go.Ground.data }, { on := 11, ground := Go.Ground.guard }], guard := some (11, true) } := rfl
theorem hop4_11_15 : hop4_11_ops[15]? = some { dst := some 190, op := Go.Op.call { callee := Go.Callee.value (Go.Operand.func 28), args := #[Go.Operand.tmp 189], argTypes := #[5] }, type := 4, pos := "law.go:106", after := #[{ on := 14, ground := Go.Ground.data }, { on := 11, ground := Go.Ground.chain }, { on := 11, ground := Go.Ground.guard }], guard := some (11, true) } := rfl
theorem hop4_11_16 : hop4_11_ops[16]? = some { dst := some 191, op := Go.Op.unOp Go.UnOp.not 4 (Go.Operand.tmp 190), type := 4, pos := "law.go:106", after := #[{ on := 15, ground := Go.Ground.data }, { on := 11, ground := Go.Ground.guard }], guard := some (11, true) } := rfl
theorem hop4_11_17 : hop4_11_ops[17]? = some { dst := some 192, op := Go.Op.move (Go.Operand.tmp 191), type := 4, pos := "law.go:106", after := #[{ on := 16, ground := Go.Ground.data }, { on := 15, ground := Go.Ground.chain }, { on := 11, ground := Go.Ground.guard }], guard := some (11, true) } := rfl
theorem hop4_11_18 : hop4_11_ops[18]? = some { dst := some 193, op := Go.Op.load 65 (Go.Operand.tmp 8), type := 65, pos := "law.go:106", after := #[{ on := 17, ground := Go.Ground.guard }], guard := some (17, false) } := rfl
theorem hop4_11_19 : hop4_11_ops[19]? = some { dst := some 194, op := Go.Op.call { callee := Go.Callee.value (Go.Operand.func 40), args := #[Go.Operand.tmp 193, Go.Operand.const (Go.Value.slice none 0 0)], argTypes := #[65, 70] }, type := 70, pos := "law.go:106", after := #[{ on := 18, ground := Go.Ground.data }, { on := 17, ground := Go.Ground.chain }, { on := 17, ground := Go.Ground.guard }], guard := some (17, false) } := rfl
theorem hop4_11_20 : hop4_11_ops[20]? = some { dst := some 195, op := Go.Op.convert 70 9 (Go.Operand.tmp 194), type := 9, pos := "law.go:106", after := #[{ on := 19, ground := Go.Ground.data }, { on := 17, ground := Go.Ground.guard }], guard := some (17, false) } := rfl
theorem hop4_11_21 : hop4_11_ops[21]? = some { dst := some 196, op := Go.Op.fieldAddr 53 (Go.Operand.tmp 2) 4, type := 0, pos := "law.go:106", after := #[{ on := 17, ground := Go.Ground.guard }], guard := some (17, false) } := rfl
theorem hop4_11_22 : hop4_11_ops[22]? = some { dst := some 197, op := Go.Op.load 51 (Go.Operand.tmp 196), type := 51, pos := "law.go:106", after := #[{ on := 21, ground := Go.Ground.data }, { on := 17, ground := Go.Ground.guard }], guard := some (17, false) } := rfl
theorem hop4_11_23 : hop4_11_ops[23]? = some { dst := some 198, op := Go.Op.call { callee := Go.Callee.value (Go.Operand.func 41), args := #[Go.Operand.tmp 197], argTypes := #[51] }, type := 9, pos := "law.go:106", after := #[{ on := 22, ground := Go.Ground.data }, { on := 19, ground := Go.Ground.chain }, { on := 17, ground := Go.Ground.guard }], guard := some (17, false) } := rfl
theorem hop4_11_24 : hop4_11_ops[24]? = some { dst := some 199, op := Go.Op.binOp Go.BinOp.eql 9 (Go.Operand.tmp 195) (Go.Operand.tmp 198) 9, type := 4, pos := "law.go:106", after := #[{ on := 20, ground := Go.Ground.data }, { on := 23, ground := Go.Ground.data }, { on := 17, ground := Go.Ground.guard }], guard := some (17, false) } := rfl
theorem hop4_11_25 : hop4_11_ops[25]? = some { dst := some 200, op := Go.Op.pick (Go.Operand.tmp 192) (Go.Operand.const (Go.Value.bool true)) (Go.Operand.tmp 199), type := 4, pos := "law.go:106", after := #[{ on := 17, ground := Go.Ground.data }, { on := 24, ground := Go.Ground.data }, { on := 11, ground := Go.Ground.guard }], guard := some (11, true) } := rfl
theorem hop4_11_26 : hop4_11_ops[26]? = some { dst := some 201, op := Go.Op.pick (Go.Operand.tmp 186) (Go.Operand.tmp 200) (Go.Operand.const (Go.Value.bool false)), type := 4, pos := "law.go:106", after := #[{ on := 11, ground := Go.Ground.data }, { on := 25, ground := Go.Ground.data }], guard := none } := rfl
theorem hop4_11_27 : hop4_11_ops[27]? = some { dst := some 202, op := Go.Op.move (Go.Operand.tmp 201), type := 4, pos := "law.go:106", after := #[{ on := 26, ground := Go.Ground.data }, { on := 23, ground := Go.Ground.chain }], guard := none } := rfl
theorem hop4_11_28 : hop4_11_ops[28]? = some { dst := some 203, op := Go.Op.call { callee := Go.Callee.value (Go.Operand.func 42), args := #[], argTypes := #[] }, type := 4, pos := "law.go:106", after := #[{ on := 27, ground := Go.Ground.chain }, { on := 27, ground := Go.Ground.guard }], guard := some (27, true) } := rfl
theorem hop4_11_29 : hop4_11_ops[29]? = some { dst := some 204, op := Go.Op.pick (Go.Operand.tmp 202) (Go.Operand.tmp 203) (Go.Operand.const (Go.Value.bool false)), type := 4, pos := "law.go:106", after := #[{ on := 27, ground := Go.Ground.data }, { on := 28, ground := Go.Ground.data }], guard := none } := rfl
theorem hop4_11_30 : hop4_11_ops[30]? = some { dst := some 4, op := Go.Op.assign (Go.Operand.tmp 204), type := 4, pos := "law.go:106", after := #[{ on := 29, ground := Go.Ground.data }, { on := 28, ground := Go.Ground.chain }, { on := 0, ground := Go.Ground.phase }, { on := 1, ground := Go.Ground.phase }, { on := 2, ground := Go.Ground.phase }, { on := 3, ground := Go.Ground.phase }, { on := 4, ground := Go.Ground.phase }, { on := 5, ground := Go.Ground.phase }, { on := 6, ground := Go.Ground.phase }, { on := 7, ground := Go.Ground.phase }, { on := 8, ground := Go.Ground.phase }, { on := 9, ground := Go.Ground.phase }, { on := 10, ground := Go.Ground.phase }, { on := 11, ground := Go.Ground.phase }, { on := 12, ground := Go.Ground.phase }, { on := 13, ground := Go.Ground.phase }, { on := 14, ground := Go.Ground.phase }, { on := 15, ground := Go.Ground.phase }, { on := 16, ground := Go.Ground.phase }, { on := 17, ground := Go.Ground.phase }, { on := 18, ground := Go.Ground.phase }, { on := 19, ground := Go.Ground.phase }, { on := 20, ground := Go.Ground.phase }, { on := 21, ground := Go.Ground.phase }, { on := 22, ground := Go.Ground.phase }, { on := 23, ground := Go.Ground.phase }, { on := 24, ground := Go.Ground.phase }, { on := 25, ground := Go.Ground.phase }, { on := 26, ground := Go.Ground.phase }, { on := 27, ground := Go.Ground.phase }, { on := 28, ground := Go.Ground.phase }, { on := 29, ground := Go.Ground.phase }], guard := none } := rfl

set_option maxRecDepth 100000 in
set_option maxHeartbeats 16000000 in
theorem reg11 (Q : Exit → Act → World → Prop) (X Y g5 g6 g7 g8 : Nat) (vv : Int) (p r s u : ByteArray) (lm : Bool) (la lb tv : Int) (tm : Bool) (ta tb gv : Int) (gm : Bool) (A0 A1 : Option Addr) (c0 c1 : Nat) (wb w : World) (bt : Bool) {t0 t1 t4 t9 t10 t12 t13 t14 t15 t16 t17 t18 t19 t20 t21 t22 t23 t24 t25 t26 t27 t28 t29 t30 t31 t32 t33 t34 t35 t36 t37 t38 t39 t40 t41 t42 t43 t44 t45 t46 t47 t48 t49 t50 t51 t52 t53 t54 t55 t56 t57 t58 t59 t60 t61 t62 t63 t64 t65 t66 t67 t68 t69 t70 t71 t72 t73 t74 t75 t76 t77 t78 t79 t80 t81 t82 t83 t84 t85 t86 t87 t88 t89 t90 t91 t92 t93 t94 t95 t96 t97 t98 t99 t100 t101 t102 t103 t104 t105 t106 t107 t108 t109 t110 t111 t112 t113 t114 t115 t116 t117 t118 t119 t120 t121 t122 t123 t124 t125 t126 t127 t128 t129 t130 t131 t132 t133 t134 t135 t136 t137 t138 t139 t140 t141 t142 t143 t144 t145 t146 t147 t148 t149 t150 t151 t152 t153 t154 t155 t156 t157 t158 t159 t160 t161 t162 t163 t164 t165 t166 t167 t168 t169 t170 t171 t172 t173 t174 t175 t176 t177 t178 t179 t180 t181 t182 t183 t184 t185 t186 t187 t188 t189 t190 t191 t192 t193 t194 t195 t196 t197 t198 t199 t200 t201 t202 t203 t204 : Value} (hC : wb.cell? ⟨X, 0, none⟩ = some (.int .u8 vv) ∧ wb.cell? ⟨X, 1, none⟩ = some (.string p) ∧ wb.cell? ⟨X, 2, none⟩ = some (.string r) ∧ wb.cell? ⟨X, 3, none⟩ = some (.bool lm) ∧ wb.cell? ⟨X, 4, none⟩ = some (.int .u32 la) ∧ wb.cell? ⟨X, 5, none⟩ = some (.int .u32 lb) ∧ wb.cell? ⟨X, 6, none⟩ = some (.int .u8 tv) ∧ wb.cell? ⟨X, 7, none⟩ = some (.bool tm) ∧ wb.cell? ⟨X, 8, none⟩ = some (.int .u32 ta) ∧ wb.cell? ⟨X, 9, none⟩ = some (.int .u32 tb) ∧ wb.cell? ⟨X, 10, none⟩ = some (.int .u8 gv) ∧ wb.cell? ⟨X, 11, none⟩ = some (.bool gm) ∧ wb.cell? ⟨Y, 0, none⟩ = some (.string s) ∧ wb.cell? ⟨Y, 1, none⟩ = some (.string u) ∧ wb.cell? ⟨g5, 0, none⟩ = some (.slice A0 (bytesOf p).length c0) ∧ wb.cell? ⟨g5, 1, none⟩ = some (.slice A1 (bytesOf r).length c1) ∧ wb.cell? ⟨g6, 0, none⟩ = some (.bool lm) ∧ wb.cell? ⟨g6, 1, none⟩ = some (.int .u32 la) ∧ wb.cell? ⟨g6, 2, none⟩ = some (.int .u32 lb) ∧ wb.cell? ⟨g7, 0, none⟩ = some (.int .u8 tv) ∧ wb.cell? ⟨g7, 1, none⟩ = some (.bool tm) ∧ wb.cell? ⟨g7, 2, none⟩ = some (.int .u32 ta) ∧ wb.cell? ⟨g7, 3, none⟩ = some (.int .u32 tb) ∧ wb.cell? ⟨g8, 0, none⟩ = some (.int .u8 gv) ∧ wb.cell? ⟨g8, 1, none⟩ = some (.bool gm)) (hB : Below wb.heap.size wb w) (ta0 : 0 ≤ ta) (ta1 : ta ≤ 4294967295) (tb0 : 0 ≤ tb) (tb1 : tb ≤ 4294967295) (hG : ∀ W, Below wb.heap.size wb W → GlobN W)
    (hq : ∀ (s175 s176 s177 s178 s179 s180 s181 s182 s183 s184 s185 s186 s187 s188 s189 s190 s191 s192 s193 s194 s195 s196 s197 s198 s199 s200 s201 s202 s203 s204 : Value) (W : World), Below wb.heap.size wb W → Q .normal ({ tmps := #[t0, t1, .pointer (some ⟨X, 0, none⟩), .pointer (some ⟨Y, 0, none⟩), .bool true, .pointer (some ⟨g5, 0, none⟩), .pointer (some ⟨g6, 0, none⟩), .pointer (some ⟨g7, 0, none⟩), .pointer (some ⟨g8, 0, none⟩), t9, t10, .bool bt, t12, t13, t14, t15, t16, t17, t18, t19, t20, t21, t22, t23, t24, t25, t26, t27, t28, t29, t30, t31, t32, t33, t34, t35, t36, t37, t38, t39, t40, t41, t42, t43, t44, t45, t46, t47, t48, t49, t50, t51, t52, t53, t54, t55, t56, t57, t58, t59, t60, t61, t62, t63, t64, t65, t66, t67, t68, t69, t70, t71, t72, t73, t74, t75, t76, t77, t78, t79, t80, t81, t82, t83, t84, t85, t86, t87, t88, t89, t90, t91, t92, t93, t94, t95, t96, t97, t98, t99, t100, t101, t102, t103, t104, t105, t106, t107, t108, t109, t110, t111, t112, t113, t114, t115, t116, t117, t118, t119, t120, t121, t122, t123, t124, t125, t126, t127, t128, t129, t130, t131, t132, t133, t134, t135, t136, t137, t138, t139, t140, t141, t142, t143, t144, t145, t146, t147, t148, t149, t150, t151, t152, t153, t154, t155, t156, t157, t158, t159, t160, t161, t162, t163, t164, t165, t166, t167, t168, t169, t170, t171, t172, t173, t174, s175, s176, s177, s178, s179, s180, s181, s182, s183, s184, s185, s186, s187, s188, s189, s190, s191, s192, s193, s194, s195, s196, s197, s198, s199, s200, s201, s202, s203, s204], defers := [] } : Act) W) :
    (Code.region 11 #[{ dst := some 175, op := Go.Op.move (Go.Operand.tmp 11), type := 4, pos := "law.go:106", after := #[], guard := none },
    { dst := some 176, op := Go.Op.unOp Go.UnOp.not 4 (Go.Operand.tmp 175), type := 4, pos := "law.go:106", after := #[{ on := 0, ground := Go.Ground.data }], guard := none },
    { dst := some 177, op := Go.Op.move (Go.Operand.tmp 176), type := 4, pos := "law.go:106", after := #[{ on := 1, ground := Go.Ground.data }], guard := none },
    { dst := some 178, op := Go.Op.load 62 (Go.Operand.tmp 7), type := 62, pos := "law.go:106", after := #[{ on := 2, ground := Go.Ground.guard }], guard := some (2, false) },
    { dst := some 179, op := Go.Op.call { callee := Go.Callee.value (Go.Operand.func 38), args := #[Go.Operand.tmp 178, Go.Operand.const (Go.Value.slice none 0 0)], argTypes := #[62, 70] }, type := 70, pos := "law.go:106", after := #[{ on := 3, ground := Go.Ground.data }, { on := 2, ground := Go.Ground.chain }, { on := 2, ground := Go.Ground.guard }], guard := some (2, false) },
    { dst := some 180, op := Go.Op.convert 70 9 (Go.Operand.tmp 179), type := 9, pos := "law.go:106", after := #[{ on := 4, ground := Go.Ground.data }, { on := 2, ground := Go.Ground.guard }], guard := some (2, false) },
    { dst := some 181, op := Go.Op.fieldAddr 53 (Go.Operand.tmp 2) 3, type := 0, pos := "law.go:106", after := #[{ on := 2, ground := Go.Ground.guard }], guard := some (2, false) },
    { dst := some 182, op := Go.Op.load 49 (Go.Operand.tmp 181), type := 49, pos := "law.go:106", after := #[{ on := 6, ground := Go.Ground.data }, { on := 2, ground := Go.Ground.guard }], guard := some (2, false) },
    { dst := some 183, op := Go.Op.call { callee := Go.Callee.value (Go.Operand.func 39), args := #[Go.Operand.tmp 182, Go.Operand.const (Go.Value.int Go.IntKind.i64 0)], argTypes := #[49, 3] }, type := 9, pos := "law.go:106", after := #[{ on := 7, ground := Go.Ground.data }, { on := 4, ground := Go.Ground.chain }, { on := 2, ground := Go.Ground.guard }], guard := some (2, false) },
    { dst := some 184, op := Go.Op.binOp Go.BinOp.eql 9 (Go.Operand.tmp 180) (Go.Operand.tmp 183) 9, type := 4, pos := "law.go:106", after := #[{ on := 5, ground := Go.Ground.data }, { on := 8, ground := Go.Ground.data }, { on := 2, ground := Go.Ground.guard }], guard := some (2, false) },
    { dst := some 185, op := Go.Op.pick (Go.Operand.tmp 177) (Go.Operand.const (Go.Value.bool true)) (Go.Operand.tmp 184), type := 4, pos := "law.go:106", after := #[{ on := 2, ground := Go.Ground.data }, { on := 9, ground := Go.Ground.data }], guard := none },
    { dst := some 186, op := Go.Op.move (Go.Operand.tmp 185), type := 4, pos := "law.go:106", after := #[{ on := 10, ground := Go.Ground.data }, { on := 8, ground := Go.Ground.chain }], guard := none },
    { dst := some 187, op := Go.Op.fieldAddr 53 (Go.Operand.tmp 2) 4, type := 0, pos := "law.go:106", after := #[{ on := 11, ground := Go.Ground.guard }], guard := some (11, true) },
    { dst := some 188, op := Go.Op.fieldAddr 51 (Go.Operand.tmp 187) 0, type := 0, pos := "law.go:106", after := #[{ on := 12, ground := Go.Ground.data }, { on := 11, ground := Go.Ground.guard }], guard := some (11, true) },
    { dst := some 189, op := Go.Op.load 5 (Go.Operand.tmp 188), type := 5, pos := "law.go:106", after := #[{ on := 13, ground := Go.Ground.data }, { on := 11, ground := Go.Ground.guard }], guard := some (11, true) },
    { dst := some 190, op := Go.Op.call { callee := Go.Callee.value (Go.Operand.func 28), args := #[Go.Operand.tmp 189], argTypes := #[5] }, type := 4, pos := "law.go:106", after := #[{ on := 14, ground := Go.Ground.data }, { on := 11, ground := Go.Ground.chain }, { on := 11, ground := Go.Ground.guard }], guard := some (11, true) },
    { dst := some 191, op := Go.Op.unOp Go.UnOp.not 4 (Go.Operand.tmp 190), type := 4, pos := "law.go:106", after := #[{ on := 15, ground := Go.Ground.data }, { on := 11, ground := Go.Ground.guard }], guard := some (11, true) },
    { dst := some 192, op := Go.Op.move (Go.Operand.tmp 191), type := 4, pos := "law.go:106", after := #[{ on := 16, ground := Go.Ground.data }, { on := 15, ground := Go.Ground.chain }, { on := 11, ground := Go.Ground.guard }], guard := some (11, true) },
    { dst := some 193, op := Go.Op.load 65 (Go.Operand.tmp 8), type := 65, pos := "law.go:106", after := #[{ on := 17, ground := Go.Ground.guard }], guard := some (17, false) },
    { dst := some 194, op := Go.Op.call { callee := Go.Callee.value (Go.Operand.func 40), args := #[Go.Operand.tmp 193, Go.Operand.const (Go.Value.slice none 0 0)], argTypes := #[65, 70] }, type := 70, pos := "law.go:106", after := #[{ on := 18, ground := Go.Ground.data }, { on := 17, ground := Go.Ground.chain }, { on := 17, ground := Go.Ground.guard }], guard := some (17, false) },
    { dst := some 195, op := Go.Op.convert 70 9 (Go.Operand.tmp 194), type := 9, pos := "law.go:106", after := #[{ on := 19, ground := Go.Ground.data }, { on := 17, ground := Go.Ground.guard }], guard := some (17, false) },
    { dst := some 196, op := Go.Op.fieldAddr 53 (Go.Operand.tmp 2) 4, type := 0, pos := "law.go:106", after := #[{ on := 17, ground := Go.Ground.guard }], guard := some (17, false) },
    { dst := some 197, op := Go.Op.load 51 (Go.Operand.tmp 196), type := 51, pos := "law.go:106", after := #[{ on := 21, ground := Go.Ground.data }, { on := 17, ground := Go.Ground.guard }], guard := some (17, false) },
    { dst := some 198, op := Go.Op.call { callee := Go.Callee.value (Go.Operand.func 41), args := #[Go.Operand.tmp 197], argTypes := #[51] }, type := 9, pos := "law.go:106", after := #[{ on := 22, ground := Go.Ground.data }, { on := 19, ground := Go.Ground.chain }, { on := 17, ground := Go.Ground.guard }], guard := some (17, false) },
    { dst := some 199, op := Go.Op.binOp Go.BinOp.eql 9 (Go.Operand.tmp 195) (Go.Operand.tmp 198) 9, type := 4, pos := "law.go:106", after := #[{ on := 20, ground := Go.Ground.data }, { on := 23, ground := Go.Ground.data }, { on := 17, ground := Go.Ground.guard }], guard := some (17, false) },
    { dst := some 200, op := Go.Op.pick (Go.Operand.tmp 192) (Go.Operand.const (Go.Value.bool true)) (Go.Operand.tmp 199), type := 4, pos := "law.go:106", after := #[{ on := 17, ground := Go.Ground.data }, { on := 24, ground := Go.Ground.data }, { on := 11, ground := Go.Ground.guard }], guard := some (11, true) },
    { dst := some 201, op := Go.Op.pick (Go.Operand.tmp 186) (Go.Operand.tmp 200) (Go.Operand.const (Go.Value.bool false)), type := 4, pos := "law.go:106", after := #[{ on := 11, ground := Go.Ground.data }, { on := 25, ground := Go.Ground.data }], guard := none },
    { dst := some 202, op := Go.Op.move (Go.Operand.tmp 201), type := 4, pos := "law.go:106", after := #[{ on := 26, ground := Go.Ground.data }, { on := 23, ground := Go.Ground.chain }], guard := none },
    { dst := some 203, op := Go.Op.call { callee := Go.Callee.value (Go.Operand.func 42), args := #[], argTypes := #[] }, type := 4, pos := "law.go:106", after := #[{ on := 27, ground := Go.Ground.chain }, { on := 27, ground := Go.Ground.guard }], guard := some (27, true) },
    { dst := some 204, op := Go.Op.pick (Go.Operand.tmp 202) (Go.Operand.tmp 203) (Go.Operand.const (Go.Value.bool false)), type := 4, pos := "law.go:106", after := #[{ on := 27, ground := Go.Ground.data }, { on := 28, ground := Go.Ground.data }], guard := none },
    { dst := some 4, op := Go.Op.assign (Go.Operand.tmp 204), type := 4, pos := "law.go:106", after := #[{ on := 29, ground := Go.Ground.data }, { on := 28, ground := Go.Ground.chain }, { on := 0, ground := Go.Ground.phase }, { on := 1, ground := Go.Ground.phase }, { on := 2, ground := Go.Ground.phase }, { on := 3, ground := Go.Ground.phase }, { on := 4, ground := Go.Ground.phase }, { on := 5, ground := Go.Ground.phase }, { on := 6, ground := Go.Ground.phase }, { on := 7, ground := Go.Ground.phase }, { on := 8, ground := Go.Ground.phase }, { on := 9, ground := Go.Ground.phase }, { on := 10, ground := Go.Ground.phase }, { on := 11, ground := Go.Ground.phase }, { on := 12, ground := Go.Ground.phase }, { on := 13, ground := Go.Ground.phase }, { on := 14, ground := Go.Ground.phase }, { on := 15, ground := Go.Ground.phase }, { on := 16, ground := Go.Ground.phase }, { on := 17, ground := Go.Ground.phase }, { on := 18, ground := Go.Ground.phase }, { on := 19, ground := Go.Ground.phase }, { on := 20, ground := Go.Ground.phase }, { on := 21, ground := Go.Ground.phase }, { on := 22, ground := Go.Ground.phase }, { on := 23, ground := Go.Ground.phase }, { on := 24, ground := Go.Ground.phase }, { on := 25, ground := Go.Ground.phase }, { on := 26, ground := Go.Ground.phase }, { on := 27, ground := Go.Ground.phase }, { on := 28, ground := Go.Ground.phase }, { on := 29, ground := Go.Ground.phase }], guard := none }] true).wp Tryd.prog Q ({ tmps := #[t0, t1, .pointer (some ⟨X, 0, none⟩), .pointer (some ⟨Y, 0, none⟩), t4, .pointer (some ⟨g5, 0, none⟩), .pointer (some ⟨g6, 0, none⟩), .pointer (some ⟨g7, 0, none⟩), .pointer (some ⟨g8, 0, none⟩), t9, t10, .bool bt, t12, t13, t14, t15, t16, t17, t18, t19, t20, t21, t22, t23, t24, t25, t26, t27, t28, t29, t30, t31, t32, t33, t34, t35, t36, t37, t38, t39, t40, t41, t42, t43, t44, t45, t46, t47, t48, t49, t50, t51, t52, t53, t54, t55, t56, t57, t58, t59, t60, t61, t62, t63, t64, t65, t66, t67, t68, t69, t70, t71, t72, t73, t74, t75, t76, t77, t78, t79, t80, t81, t82, t83, t84, t85, t86, t87, t88, t89, t90, t91, t92, t93, t94, t95, t96, t97, t98, t99, t100, t101, t102, t103, t104, t105, t106, t107, t108, t109, t110, t111, t112, t113, t114, t115, t116, t117, t118, t119, t120, t121, t122, t123, t124, t125, t126, t127, t128, t129, t130, t131, t132, t133, t134, t135, t136, t137, t138, t139, t140, t141, t142, t143, t144, t145, t146, t147, t148, t149, t150, t151, t152, t153, t154, t155, t156, t157, t158, t159, t160, t161, t162, t163, t164, t165, t166, t167, t168, t169, t170, t171, t172, t173, t174, t175, t176, t177, t178, t179, t180, t181, t182, t183, t184, t185, t186, t187, t188, t189, t190, t191, t192, t193, t194, t195, t196, t197, t198, t199, t200, t201, t202, t203, t204], defers := [] } : Act) w := by
  have HC := hid hC
  have HB := hid hB
  have HQ := hid hq
  have HGN := hid hG
  obtain ⟨S1, hS1⟩ : ∃ S1, strOfNums ([tv] ++ limM tm ta tb 0) = S1 := ⟨_, rfl⟩
  have hE1 : strOfNums ([tv] ++ lputB tm ta tb) = S1 := by rw [← hS1, limM_zero tm ta0 ta1 tb0 tb1]
  obtain ⟨S2, hS2⟩ : ∃ S2, strOfNums [gv, bitB gm] = S2 := ⟨_, rfl⟩
  have HE1 := hid hE1
  have HE2 := hid hS2
  have HR1 := hid (fun W => tput_walk tv tm ta tb W ta0 ta1 tb0 tb1)
  have HR2 := hid (fun W => rputTab_walk tv tm ta tb W 0 ta0 ta1 tb0 tb1 (by omega) (by omega))
  rw [hS1] at HR2
  obtain ⟨bg, hbg⟩ : ∃ b, valV gv = b := ⟨_, rfl⟩
  have HR3 := hid (fun W => rval_walk gv W)
  rw [hbg] at HR3
  have HR4 := hid (fun W => gput_walk gv gm W)
  have HR5 := hid (fun W => rputGlob_walk gv gm W)
  rw [hS2] at HR5
  have HR6 := hid (fun W (h : Below wb.heap.size wb W) => awake05_walk W (HGN.out W h))
  clear hC hB hq hG hS1 hS2 hE1 hbg
  have hu0 := Tryd.underlying53
  have hu1 := Tryd.underlying56
  have hu2 := Tryd.underlying58
  have hu3 := Tryd.underlying62
  have hu4 := Tryd.underlying65
  have hu5 := Tryd.underlying44
  cases bt with
  | true =>
    cases bg with
    | true =>
      refine wp_region_noPanic ?_
      refine wp_region_held_drew (S := (fun W => Below wb.heap.size wb W ∧ W.cell? ⟨X, 0, none⟩ = some (.int .u8 vv) ∧ W.cell? ⟨X, 1, none⟩ = some (.string p) ∧ W.cell? ⟨X, 2, none⟩ = some (.string r) ∧ W.cell? ⟨X, 3, none⟩ = some (.bool lm) ∧ W.cell? ⟨X, 4, none⟩ = some (.int .u32 la) ∧ W.cell? ⟨X, 5, none⟩ = some (.int .u32 lb) ∧ W.cell? ⟨X, 6, none⟩ = some (.int .u8 tv) ∧ W.cell? ⟨X, 7, none⟩ = some (.bool tm) ∧ W.cell? ⟨X, 8, none⟩ = some (.int .u32 ta) ∧ W.cell? ⟨X, 9, none⟩ = some (.int .u32 tb) ∧ W.cell? ⟨X, 10, none⟩ = some (.int .u8 gv) ∧ W.cell? ⟨X, 11, none⟩ = some (.bool gm) ∧ W.cell? ⟨Y, 0, none⟩ = some (.string s) ∧ W.cell? ⟨Y, 1, none⟩ = some (.string u) ∧ W.cell? ⟨g5, 0, none⟩ = some (.slice A0 (bytesOf p).length c0) ∧ W.cell? ⟨g5, 1, none⟩ = some (.slice A1 (bytesOf r).length c1) ∧ W.cell? ⟨g6, 0, none⟩ = some (.bool lm) ∧ W.cell? ⟨g6, 1, none⟩ = some (.int .u32 la) ∧ W.cell? ⟨g6, 2, none⟩ = some (.int .u32 lb) ∧ W.cell? ⟨g7, 0, none⟩ = some (.int .u8 tv) ∧ W.cell? ⟨g7, 1, none⟩ = some (.bool tm) ∧ W.cell? ⟨g7, 2, none⟩ = some (.int .u32 ta) ∧ W.cell? ⟨g7, 3, none⟩ = some (.int .u32 tb) ∧ W.cell? ⟨g8, 0, none⟩ = some (.int .u8 gv) ∧ W.cell? ⟨g8, 1, none⟩ = some (.bool gm))) (by kernel_rfl) ?hSatt1 (fun hHeld => ?goatt1)
      case hSatt1 => exact keepS HC.out HB.out.drew
      refine wpAnyH_take (i := 0) (v := ?_) hop4_11_0 (by kernel_rfl) (by kernel_rfl) (by kernel_rfl) (fun _ _ _ h => h) (Or.inl ⟨by rfl, ?hyatt2⟩) (by assumption) ?restatt2
      case hyatt2 => (intro w hSw; (try dsimp only at hSw); go_simp; first | (with_reducible rfl) | (rw [if_neg (by omega)]) | skip)
      simp only [Act.put, List.setIfInBounds_toArray, List.set_cons_zero, List.set_cons_succ]
      refine wpAnyH_take (i := 1) (v := ?_) hop4_11_1 (by kernel_rfl) (by kernel_rfl) (by kernel_rfl) (fun _ _ _ h => h) (Or.inl ⟨by rfl, ?hyatt3⟩) (by assumption) ?restatt3
      case hyatt3 => (intro w hSw; (try dsimp only at hSw); go_simp; first | (with_reducible rfl) | (rw [if_neg (by omega)]) | skip)
      simp only [Act.put, List.setIfInBounds_toArray, List.set_cons_zero, List.set_cons_succ]
      refine wpAnyH_take (i := 2) (v := ?_) hop4_11_2 (by kernel_rfl) (by kernel_rfl) (by kernel_rfl) (fun _ _ _ h => h) (Or.inl ⟨by rfl, ?hyatt4⟩) (by assumption) ?restatt4
      case hyatt4 => (intro w hSw; (try dsimp only at hSw); go_simp; first | (with_reducible rfl) | (rw [if_neg (by omega)]) | skip)
      simp only [Act.put, List.setIfInBounds_toArray, List.set_cons_zero, List.set_cons_succ]
      refine wpAnyH_take (i := 3) (v := ?_) hop4_11_3 (by kernel_rfl) (by kernel_rfl) (by kernel_rfl) (fun _ _ _ h => h) (Or.inl ⟨by rfl, ?hyatt5⟩) (by assumption) ?restatt5
      case hyatt5 => (intro w hSw; (try dsimp only at hSw); go_simp; first | (with_reducible rfl) | (rw [if_neg (by omega)]) | skip)
      simp only [Act.put, List.setIfInBounds_toArray, List.set_cons_zero, List.set_cons_succ]
      refine wpAnyH_take (i := 6) (v := ?_) hop4_11_6 (by kernel_rfl) (by kernel_rfl) (by kernel_rfl) (fun _ _ _ h => h) (Or.inl ⟨by rfl, ?hyatt6⟩) (by assumption) ?restatt6
      case hyatt6 => (intro w hSw; (try dsimp only at hSw); go_simp; first | (with_reducible rfl) | (rw [if_neg (by omega)]) | skip)
      simp only [Act.put, List.setIfInBounds_toArray, List.set_cons_zero, List.set_cons_succ]
      refine wpAnyH_take (i := 7) (v := ?_) hop4_11_7 (by kernel_rfl) (by kernel_rfl) (by kernel_rfl) (fun _ _ _ h => h) (Or.inl ⟨by rfl, ?hyatt7⟩) (by assumption) ?restatt7
      case hyatt7 => (intro w hSw; (try dsimp only at hSw); go_simp; first | (with_reducible rfl) | (rw [if_neg (by omega)]) | skip)
      simp only [Act.put, List.setIfInBounds_toArray, List.set_cons_zero, List.set_cons_succ]
      refine wpAnyH_ready (rs := [4]) (by kernel_rfl) (by simp) ?_
      refine AllReadyH.cons hop4_11_4 (fun K hK => ?_) AllReadyH.nil
      go_simp
      go_at_call 38; (with_reducible refine (HR1.out _).mono ?_); rintro e w1 ⟨v1, rfl, ho, hb1⟩; have HO := ho; clear ho
      refine hK.out _ _ ?_ (fun hHeld => ?_)
      · (try dsimp only); exact keepS HC.out (hHeld.1.trans (hb1.mono hHeld.1.size))
      clear hK K
      try simp only [Act.put, List.setIfInBounds_toArray, List.set_cons_zero, List.set_cons_succ]
      refine wpAnyH_ready (rs := [5, 8]) (by kernel_rfl) (by simp) ?_
      refine AllReadyH.cons hop4_11_5 (fun K hK => ?_) ?_
      · have hcv := own_convE HO.out HE1.out
        go_simp
        refine hK.out _ _ ?_ (fun hHeld => ?_)
        · (try dsimp only); exact hHeld
        clear hK K
        try simp only [Act.put, List.setIfInBounds_toArray, List.set_cons_zero, List.set_cons_succ]
        refine wpAnyH_ready (rs := [8]) (by kernel_rfl) (by simp) ?_
        refine AllReadyH.cons hop4_11_8 (fun K hK => ?_) AllReadyH.nil
        go_simp
        go_at_call 39; (with_reducible refine (HR2.out _).mono ?_); rintro e w1 ⟨rfl, hb1⟩; (try have HO := hid (own_below HO.out hb1))
        refine hK.out _ _ ?_ (fun hHeld => ?_)
        · (try dsimp only); exact keepS HC.out (hHeld.1.trans (hb1.mono hHeld.1.size))
        clear hK K
        try simp only [Act.put, List.setIfInBounds_toArray, List.set_cons_zero, List.set_cons_succ]
        refine wpAnyH_take (i := 9) (v := ?_) hop4_11_9 (by kernel_rfl) (by kernel_rfl) (by kernel_rfl) (fun _ _ _ h => h) (Or.inl ⟨by rfl, ?hyatt8⟩) (by assumption) ?restatt8
        case hyatt8 => (intro w hSw; (try dsimp only at hSw); go_simp; first | (with_reducible rfl) | (rw [if_neg (by omega)]) | skip)
        simp only [Act.put, List.setIfInBounds_toArray, List.set_cons_zero, List.set_cons_succ]
        refine wpAnyH_take (i := 10) (v := ?_) hop4_11_10 (by kernel_rfl) (by kernel_rfl) (by kernel_rfl) (fun _ _ _ h => h) (Or.inl ⟨by rfl, ?hyatt9⟩) (by assumption) ?restatt9
        case hyatt9 => (intro w hSw; (try dsimp only at hSw); go_simp; first | (with_reducible rfl) | (rw [if_neg (by omega)]) | skip)
        simp only [Act.put, List.setIfInBounds_toArray, List.set_cons_zero, List.set_cons_succ]
        refine wpAnyH_take (i := 11) (v := ?_) hop4_11_11 (by kernel_rfl) (by kernel_rfl) (by kernel_rfl) (fun _ _ _ h => h) (Or.inl ⟨by rfl, ?hyatt10⟩) (by assumption) ?restatt10
        case hyatt10 => (intro w hSw; (try dsimp only at hSw); go_simp; first | (with_reducible rfl) | (rw [if_neg (by omega)]) | skip)
        simp only [Act.put, List.setIfInBounds_toArray, List.set_cons_zero, List.set_cons_succ]
        refine wpAnyH_take (i := 12) (v := ?_) hop4_11_12 (by kernel_rfl) (by kernel_rfl) (by kernel_rfl) (fun _ _ _ h => h) (Or.inl ⟨by rfl, ?hyatt11⟩) (by assumption) ?restatt11
        case hyatt11 => (intro w hSw; (try dsimp only at hSw); go_simp; first | (with_reducible rfl) | (rw [if_neg (by omega)]) | skip)
        simp only [Act.put, List.setIfInBounds_toArray, List.set_cons_zero, List.set_cons_succ]
        refine wpAnyH_take (i := 13) (v := ?_) hop4_11_13 (by kernel_rfl) (by kernel_rfl) (by kernel_rfl) (fun _ _ _ h => h) (Or.inl ⟨by rfl, ?hyatt12⟩) (by assumption) ?restatt12
        case hyatt12 => (intro w hSw; (try dsimp only at hSw); go_simp; first | (with_reducible rfl) | (rw [if_neg (by omega)]) | skip)
        simp only [Act.put, List.setIfInBounds_toArray, List.set_cons_zero, List.set_cons_succ]
        refine wpAnyH_take (i := 14) (v := ?_) hop4_11_14 (by kernel_rfl) (by kernel_rfl) (by kernel_rfl) (fun _ _ _ h => h) (Or.inl ⟨by rfl, ?hyatt13⟩) (by assumption) ?restatt13
        case hyatt13 => (intro w hSw; (try dsimp only at hSw); go_simp; first | (with_reducible rfl) | (rw [if_neg (by omega)]) | skip)
        simp only [Act.put, List.setIfInBounds_toArray, List.set_cons_zero, List.set_cons_succ]
        refine wpAnyH_ready (rs := [15]) (by kernel_rfl) (by simp) ?_
        refine AllReadyH.cons hop4_11_15 (fun K hK => ?_) AllReadyH.nil
        go_simp
        go_at_call 28; (with_reducible refine (HR3.out _).mono ?_); rintro e w1 ⟨rfl, hb1⟩
        refine hK.out _ _ ?_ (fun hHeld => ?_)
        · (try dsimp only); exact keepS HC.out (hHeld.1.trans (hb1.mono hHeld.1.size))
        clear hK K
        try simp only [Act.put, List.setIfInBounds_toArray, List.set_cons_zero, List.set_cons_succ]
        refine wpAnyH_take (i := 16) (v := ?_) hop4_11_16 (by kernel_rfl) (by kernel_rfl) (by kernel_rfl) (fun _ _ _ h => h) (Or.inl ⟨by rfl, ?hyatt14⟩) (by assumption) ?restatt14
        case hyatt14 => (intro w hSw; (try dsimp only at hSw); go_simp; first | (with_reducible rfl) | (rw [if_neg (by omega)]) | skip)
        simp only [Act.put, List.setIfInBounds_toArray, List.set_cons_zero, List.set_cons_succ]
        refine wpAnyH_take (i := 17) (v := ?_) hop4_11_17 (by kernel_rfl) (by kernel_rfl) (by kernel_rfl) (fun _ _ _ h => h) (Or.inl ⟨by rfl, ?hyatt15⟩) (by assumption) ?restatt15
        case hyatt15 => (intro w hSw; (try dsimp only at hSw); go_simp; first | (with_reducible rfl) | (rw [if_neg (by omega)]) | skip)
        simp only [Act.put, List.setIfInBounds_toArray, List.set_cons_zero, List.set_cons_succ]
        refine wpAnyH_take (i := 18) (v := ?_) hop4_11_18 (by kernel_rfl) (by kernel_rfl) (by kernel_rfl) (fun _ _ _ h => h) (Or.inl ⟨by rfl, ?hyatt16⟩) (by assumption) ?restatt16
        case hyatt16 => (intro w hSw; (try dsimp only at hSw); go_simp; first | (with_reducible rfl) | (rw [if_neg (by omega)]) | skip)
        simp only [Act.put, List.setIfInBounds_toArray, List.set_cons_zero, List.set_cons_succ]
        refine wpAnyH_take (i := 21) (v := ?_) hop4_11_21 (by kernel_rfl) (by kernel_rfl) (by kernel_rfl) (fun _ _ _ h => h) (Or.inl ⟨by rfl, ?hyatt17⟩) (by assumption) ?restatt17
        case hyatt17 => (intro w hSw; (try dsimp only at hSw); go_simp; first | (with_reducible rfl) | (rw [if_neg (by omega)]) | skip)
        simp only [Act.put, List.setIfInBounds_toArray, List.set_cons_zero, List.set_cons_succ]
        refine wpAnyH_take (i := 22) (v := ?_) hop4_11_22 (by kernel_rfl) (by kernel_rfl) (by kernel_rfl) (fun _ _ _ h => h) (Or.inl ⟨by rfl, ?hyatt18⟩) (by assumption) ?restatt18
        case hyatt18 => (intro w hSw; (try dsimp only at hSw); go_simp; first | (with_reducible rfl) | (rw [if_neg (by omega)]) | skip)
        simp only [Act.put, List.setIfInBounds_toArray, List.set_cons_zero, List.set_cons_succ]
        refine wpAnyH_ready (rs := [19]) (by kernel_rfl) (by simp) ?_
        refine AllReadyH.cons hop4_11_19 (fun K hK => ?_) AllReadyH.nil
        go_simp
        go_at_call 40; (with_reducible refine (HR4.out _).mono ?_); rintro e w1 ⟨v2, rfl, ho, hb1⟩; have HO := ho; clear ho
        refine hK.out _ _ ?_ (fun hHeld => ?_)
        · (try dsimp only); exact keepS HC.out (hHeld.1.trans (hb1.mono hHeld.1.size))
        clear hK K
        try simp only [Act.put, List.setIfInBounds_toArray, List.set_cons_zero, List.set_cons_succ]
        refine wpAnyH_ready (rs := [20, 23]) (by kernel_rfl) (by simp) ?_
        refine AllReadyH.cons hop4_11_20 (fun K hK => ?_) ?_
        · have hcv := own_convE HO.out HE2.out
          go_simp
          refine hK.out _ _ ?_ (fun hHeld => ?_)
          · (try dsimp only); exact hHeld
          clear hK K
          try simp only [Act.put, List.setIfInBounds_toArray, List.set_cons_zero, List.set_cons_succ]
          refine wpAnyH_ready (rs := [23]) (by kernel_rfl) (by simp) ?_
          refine AllReadyH.cons hop4_11_23 (fun K hK => ?_) AllReadyH.nil
          go_simp
          go_at_call 41; (with_reducible refine (HR5.out _).mono ?_); rintro e w1 ⟨rfl, hb1⟩; (try have HO := hid (own_below HO.out hb1))
          refine hK.out _ _ ?_ (fun hHeld => ?_)
          · (try dsimp only); exact keepS HC.out (hHeld.1.trans (hb1.mono hHeld.1.size))
          clear hK K
          try simp only [Act.put, List.setIfInBounds_toArray, List.set_cons_zero, List.set_cons_succ]
          refine wpAnyH_take (i := 24) (v := ?_) hop4_11_24 (by kernel_rfl) (by kernel_rfl) (by kernel_rfl) (fun _ _ _ h => h) (Or.inl ⟨by rfl, ?hyatt19⟩) (by assumption) ?restatt19
          case hyatt19 => (intro w hSw; (try dsimp only at hSw); go_simp; first | (with_reducible rfl) | (rw [if_neg (by omega)]) | skip)
          simp only [Act.put, List.setIfInBounds_toArray, List.set_cons_zero, List.set_cons_succ]
          refine wpAnyH_take (i := 25) (v := ?_) hop4_11_25 (by kernel_rfl) (by kernel_rfl) (by kernel_rfl) (fun _ _ _ h => h) (Or.inl ⟨by rfl, ?hyatt20⟩) (by assumption) ?restatt20
          case hyatt20 => (intro w hSw; (try dsimp only at hSw); go_simp; first | (with_reducible rfl) | (rw [if_neg (by omega)]) | skip)
          simp only [Act.put, List.setIfInBounds_toArray, List.set_cons_zero, List.set_cons_succ]
          refine wpAnyH_take (i := 26) (v := ?_) hop4_11_26 (by kernel_rfl) (by kernel_rfl) (by kernel_rfl) (fun _ _ _ h => h) (Or.inl ⟨by rfl, ?hyatt21⟩) (by assumption) ?restatt21
          case hyatt21 => (intro w hSw; (try dsimp only at hSw); go_simp; first | (with_reducible rfl) | (rw [if_neg (by omega)]) | skip)
          simp only [Act.put, List.setIfInBounds_toArray, List.set_cons_zero, List.set_cons_succ]
          refine wpAnyH_take (i := 27) (v := ?_) hop4_11_27 (by kernel_rfl) (by kernel_rfl) (by kernel_rfl) (fun _ _ _ h => h) (Or.inl ⟨by rfl, ?hyatt22⟩) (by assumption) ?restatt22
          case hyatt22 => (intro w hSw; (try dsimp only at hSw); go_simp; first | (with_reducible rfl) | (rw [if_neg (by omega)]) | skip)
          simp only [Act.put, List.setIfInBounds_toArray, List.set_cons_zero, List.set_cons_succ]
          refine wpAnyH_ready (rs := [28]) (by kernel_rfl) (by simp) ?_
          refine AllReadyH.cons hop4_11_28 (fun K hK => ?_) AllReadyH.nil
          go_simp
          go_at_call 42; (with_reducible refine (HR6.out _ hHeld.1).mono ?_); rintro e w1 ⟨rfl, hb1⟩
          refine hK.out _ _ ?_ (fun hHeld => ?_)
          · (try dsimp only); exact keepS HC.out (hHeld.1.trans (hb1.mono hHeld.1.size))
          clear hK K
          try simp only [Act.put, List.setIfInBounds_toArray, List.set_cons_zero, List.set_cons_succ]
          refine wpAnyH_take (i := 29) (v := ?_) hop4_11_29 (by kernel_rfl) (by kernel_rfl) (by kernel_rfl) (fun _ _ _ h => h) (Or.inl ⟨by rfl, ?hyatt23⟩) (by assumption) ?restatt23
          case hyatt23 => (intro w hSw; (try dsimp only at hSw); go_simp; first | (with_reducible rfl) | (rw [if_neg (by omega)]) | skip)
          simp only [Act.put, List.setIfInBounds_toArray, List.set_cons_zero, List.set_cons_succ]
          refine wpAnyH_take (i := 30) (v := ?_) hop4_11_30 (by kernel_rfl) (by kernel_rfl) (by kernel_rfl) (fun _ _ _ h => h) (Or.inl ⟨by rfl, ?hyatt24⟩) (by assumption) ?restatt24
          case hyatt24 => (intro w hSw; (try dsimp only at hSw); go_simp; first | (with_reducible rfl) | (rw [if_neg (by omega)]) | skip)
          simp only [Act.put, List.setIfInBounds_toArray, List.set_cons_zero, List.set_cons_succ]
          refine wpAnyH_done (by kernel_rfl) ?_ _
          refine NoPanic.normal ?_
          exact HQ.out _ _ _ _ _ _ _ _ _ _ _ _ _ _ _ _ _ _ _ _ _ _ _ _ _ _ _ _ _ _ _ hHeld.1
        refine AllReadyH.cons hop4_11_23 (fun K hK => ?_) ?_
        · go_simp
          go_at_call 41; (with_reducible refine (HR5.out _).mono ?_); rintro e w1 ⟨rfl, hb1⟩; (try have HO := hid (own_below HO.out hb1))
          refine hK.out _ _ ?_ (fun hHeld => ?_)
          · (try dsimp only); exact keepS HC.out (hHeld.1.trans (hb1.mono hHeld.1.size))
          clear hK K
          try simp only [Act.put, List.setIfInBounds_toArray, List.set_cons_zero, List.set_cons_succ]
          refine wpAnyH_ready (rs := [20]) (by kernel_rfl) (by simp) ?_
          refine AllReadyH.cons hop4_11_20 (fun K hK => ?_) AllReadyH.nil
          have hcv := own_convE HO.out HE2.out
          go_simp
          refine hK.out _ _ ?_ (fun hHeld => ?_)
          · (try dsimp only); exact hHeld
          clear hK K
          try simp only [Act.put, List.setIfInBounds_toArray, List.set_cons_zero, List.set_cons_succ]
          refine wpAnyH_take (i := 24) (v := ?_) hop4_11_24 (by kernel_rfl) (by kernel_rfl) (by kernel_rfl) (fun _ _ _ h => h) (Or.inl ⟨by rfl, ?hyatt25⟩) (by assumption) ?restatt25
          case hyatt25 => (intro w hSw; (try dsimp only at hSw); go_simp; first | (with_reducible rfl) | (rw [if_neg (by omega)]) | skip)
          simp only [Act.put, List.setIfInBounds_toArray, List.set_cons_zero, List.set_cons_succ]
          refine wpAnyH_take (i := 25) (v := ?_) hop4_11_25 (by kernel_rfl) (by kernel_rfl) (by kernel_rfl) (fun _ _ _ h => h) (Or.inl ⟨by rfl, ?hyatt26⟩) (by assumption) ?restatt26
          case hyatt26 => (intro w hSw; (try dsimp only at hSw); go_simp; first | (with_reducible rfl) | (rw [if_neg (by omega)]) | skip)
          simp only [Act.put, List.setIfInBounds_toArray, List.set_cons_zero, List.set_cons_succ]
          refine wpAnyH_take (i := 26) (v := ?_) hop4_11_26 (by kernel_rfl) (by kernel_rfl) (by kernel_rfl) (fun _ _ _ h => h) (Or.inl ⟨by rfl, ?hyatt27⟩) (by assumption) ?restatt27
          case hyatt27 => (intro w hSw; (try dsimp only at hSw); go_simp; first | (with_reducible rfl) | (rw [if_neg (by omega)]) | skip)
          simp only [Act.put, List.setIfInBounds_toArray, List.set_cons_zero, List.set_cons_succ]
          refine wpAnyH_take (i := 27) (v := ?_) hop4_11_27 (by kernel_rfl) (by kernel_rfl) (by kernel_rfl) (fun _ _ _ h => h) (Or.inl ⟨by rfl, ?hyatt28⟩) (by assumption) ?restatt28
          case hyatt28 => (intro w hSw; (try dsimp only at hSw); go_simp; first | (with_reducible rfl) | (rw [if_neg (by omega)]) | skip)
          simp only [Act.put, List.setIfInBounds_toArray, List.set_cons_zero, List.set_cons_succ]
          refine wpAnyH_ready (rs := [28]) (by kernel_rfl) (by simp) ?_
          refine AllReadyH.cons hop4_11_28 (fun K hK => ?_) AllReadyH.nil
          go_simp
          go_at_call 42; (with_reducible refine (HR6.out _ hHeld.1).mono ?_); rintro e w1 ⟨rfl, hb1⟩
          refine hK.out _ _ ?_ (fun hHeld => ?_)
          · (try dsimp only); exact keepS HC.out (hHeld.1.trans (hb1.mono hHeld.1.size))
          clear hK K
          try simp only [Act.put, List.setIfInBounds_toArray, List.set_cons_zero, List.set_cons_succ]
          refine wpAnyH_take (i := 29) (v := ?_) hop4_11_29 (by kernel_rfl) (by kernel_rfl) (by kernel_rfl) (fun _ _ _ h => h) (Or.inl ⟨by rfl, ?hyatt29⟩) (by assumption) ?restatt29
          case hyatt29 => (intro w hSw; (try dsimp only at hSw); go_simp; first | (with_reducible rfl) | (rw [if_neg (by omega)]) | skip)
          simp only [Act.put, List.setIfInBounds_toArray, List.set_cons_zero, List.set_cons_succ]
          refine wpAnyH_take (i := 30) (v := ?_) hop4_11_30 (by kernel_rfl) (by kernel_rfl) (by kernel_rfl) (fun _ _ _ h => h) (Or.inl ⟨by rfl, ?hyatt30⟩) (by assumption) ?restatt30
          case hyatt30 => (intro w hSw; (try dsimp only at hSw); go_simp; first | (with_reducible rfl) | (rw [if_neg (by omega)]) | skip)
          simp only [Act.put, List.setIfInBounds_toArray, List.set_cons_zero, List.set_cons_succ]
          refine wpAnyH_done (by kernel_rfl) ?_ _
          refine NoPanic.normal ?_
          exact HQ.out _ _ _ _ _ _ _ _ _ _ _ _ _ _ _ _ _ _ _ _ _ _ _ _ _ _ _ _ _ _ _ hHeld.1
        exact AllReadyH.nil
      refine AllReadyH.cons hop4_11_8 (fun K hK => ?_) ?_
      · go_simp
        go_at_call 39; (with_reducible refine (HR2.out _).mono ?_); rintro e w1 ⟨rfl, hb1⟩; (try have HO := hid (own_below HO.out hb1))
        refine hK.out _ _ ?_ (fun hHeld => ?_)
        · (try dsimp only); exact keepS HC.out (hHeld.1.trans (hb1.mono hHeld.1.size))
        clear hK K
        try simp only [Act.put, List.setIfInBounds_toArray, List.set_cons_zero, List.set_cons_succ]
        refine wpAnyH_ready (rs := [5]) (by kernel_rfl) (by simp) ?_
        refine AllReadyH.cons hop4_11_5 (fun K hK => ?_) AllReadyH.nil
        have hcv := own_convE HO.out HE1.out
        go_simp
        refine hK.out _ _ ?_ (fun hHeld => ?_)
        · (try dsimp only); exact hHeld
        clear hK K
        try simp only [Act.put, List.setIfInBounds_toArray, List.set_cons_zero, List.set_cons_succ]
        refine wpAnyH_take (i := 9) (v := ?_) hop4_11_9 (by kernel_rfl) (by kernel_rfl) (by kernel_rfl) (fun _ _ _ h => h) (Or.inl ⟨by rfl, ?hyatt31⟩) (by assumption) ?restatt31
        case hyatt31 => (intro w hSw; (try dsimp only at hSw); go_simp; first | (with_reducible rfl) | (rw [if_neg (by omega)]) | skip)
        simp only [Act.put, List.setIfInBounds_toArray, List.set_cons_zero, List.set_cons_succ]
        refine wpAnyH_take (i := 10) (v := ?_) hop4_11_10 (by kernel_rfl) (by kernel_rfl) (by kernel_rfl) (fun _ _ _ h => h) (Or.inl ⟨by rfl, ?hyatt32⟩) (by assumption) ?restatt32
        case hyatt32 => (intro w hSw; (try dsimp only at hSw); go_simp; first | (with_reducible rfl) | (rw [if_neg (by omega)]) | skip)
        simp only [Act.put, List.setIfInBounds_toArray, List.set_cons_zero, List.set_cons_succ]
        refine wpAnyH_take (i := 11) (v := ?_) hop4_11_11 (by kernel_rfl) (by kernel_rfl) (by kernel_rfl) (fun _ _ _ h => h) (Or.inl ⟨by rfl, ?hyatt33⟩) (by assumption) ?restatt33
        case hyatt33 => (intro w hSw; (try dsimp only at hSw); go_simp; first | (with_reducible rfl) | (rw [if_neg (by omega)]) | skip)
        simp only [Act.put, List.setIfInBounds_toArray, List.set_cons_zero, List.set_cons_succ]
        refine wpAnyH_take (i := 12) (v := ?_) hop4_11_12 (by kernel_rfl) (by kernel_rfl) (by kernel_rfl) (fun _ _ _ h => h) (Or.inl ⟨by rfl, ?hyatt34⟩) (by assumption) ?restatt34
        case hyatt34 => (intro w hSw; (try dsimp only at hSw); go_simp; first | (with_reducible rfl) | (rw [if_neg (by omega)]) | skip)
        simp only [Act.put, List.setIfInBounds_toArray, List.set_cons_zero, List.set_cons_succ]
        refine wpAnyH_take (i := 13) (v := ?_) hop4_11_13 (by kernel_rfl) (by kernel_rfl) (by kernel_rfl) (fun _ _ _ h => h) (Or.inl ⟨by rfl, ?hyatt35⟩) (by assumption) ?restatt35
        case hyatt35 => (intro w hSw; (try dsimp only at hSw); go_simp; first | (with_reducible rfl) | (rw [if_neg (by omega)]) | skip)
        simp only [Act.put, List.setIfInBounds_toArray, List.set_cons_zero, List.set_cons_succ]
        refine wpAnyH_take (i := 14) (v := ?_) hop4_11_14 (by kernel_rfl) (by kernel_rfl) (by kernel_rfl) (fun _ _ _ h => h) (Or.inl ⟨by rfl, ?hyatt36⟩) (by assumption) ?restatt36
        case hyatt36 => (intro w hSw; (try dsimp only at hSw); go_simp; first | (with_reducible rfl) | (rw [if_neg (by omega)]) | skip)
        simp only [Act.put, List.setIfInBounds_toArray, List.set_cons_zero, List.set_cons_succ]
        refine wpAnyH_ready (rs := [15]) (by kernel_rfl) (by simp) ?_
        refine AllReadyH.cons hop4_11_15 (fun K hK => ?_) AllReadyH.nil
        go_simp
        go_at_call 28; (with_reducible refine (HR3.out _).mono ?_); rintro e w1 ⟨rfl, hb1⟩
        refine hK.out _ _ ?_ (fun hHeld => ?_)
        · (try dsimp only); exact keepS HC.out (hHeld.1.trans (hb1.mono hHeld.1.size))
        clear hK K
        try simp only [Act.put, List.setIfInBounds_toArray, List.set_cons_zero, List.set_cons_succ]
        refine wpAnyH_take (i := 16) (v := ?_) hop4_11_16 (by kernel_rfl) (by kernel_rfl) (by kernel_rfl) (fun _ _ _ h => h) (Or.inl ⟨by rfl, ?hyatt37⟩) (by assumption) ?restatt37
        case hyatt37 => (intro w hSw; (try dsimp only at hSw); go_simp; first | (with_reducible rfl) | (rw [if_neg (by omega)]) | skip)
        simp only [Act.put, List.setIfInBounds_toArray, List.set_cons_zero, List.set_cons_succ]
        refine wpAnyH_take (i := 17) (v := ?_) hop4_11_17 (by kernel_rfl) (by kernel_rfl) (by kernel_rfl) (fun _ _ _ h => h) (Or.inl ⟨by rfl, ?hyatt38⟩) (by assumption) ?restatt38
        case hyatt38 => (intro w hSw; (try dsimp only at hSw); go_simp; first | (with_reducible rfl) | (rw [if_neg (by omega)]) | skip)
        simp only [Act.put, List.setIfInBounds_toArray, List.set_cons_zero, List.set_cons_succ]
        refine wpAnyH_take (i := 18) (v := ?_) hop4_11_18 (by kernel_rfl) (by kernel_rfl) (by kernel_rfl) (fun _ _ _ h => h) (Or.inl ⟨by rfl, ?hyatt39⟩) (by assumption) ?restatt39
        case hyatt39 => (intro w hSw; (try dsimp only at hSw); go_simp; first | (with_reducible rfl) | (rw [if_neg (by omega)]) | skip)
        simp only [Act.put, List.setIfInBounds_toArray, List.set_cons_zero, List.set_cons_succ]
        refine wpAnyH_take (i := 21) (v := ?_) hop4_11_21 (by kernel_rfl) (by kernel_rfl) (by kernel_rfl) (fun _ _ _ h => h) (Or.inl ⟨by rfl, ?hyatt40⟩) (by assumption) ?restatt40
        case hyatt40 => (intro w hSw; (try dsimp only at hSw); go_simp; first | (with_reducible rfl) | (rw [if_neg (by omega)]) | skip)
        simp only [Act.put, List.setIfInBounds_toArray, List.set_cons_zero, List.set_cons_succ]
        refine wpAnyH_take (i := 22) (v := ?_) hop4_11_22 (by kernel_rfl) (by kernel_rfl) (by kernel_rfl) (fun _ _ _ h => h) (Or.inl ⟨by rfl, ?hyatt41⟩) (by assumption) ?restatt41
        case hyatt41 => (intro w hSw; (try dsimp only at hSw); go_simp; first | (with_reducible rfl) | (rw [if_neg (by omega)]) | skip)
        simp only [Act.put, List.setIfInBounds_toArray, List.set_cons_zero, List.set_cons_succ]
        refine wpAnyH_ready (rs := [19]) (by kernel_rfl) (by simp) ?_
        refine AllReadyH.cons hop4_11_19 (fun K hK => ?_) AllReadyH.nil
        go_simp
        go_at_call 40; (with_reducible refine (HR4.out _).mono ?_); rintro e w1 ⟨v2, rfl, ho, hb1⟩; have HO := ho; clear ho
        refine hK.out _ _ ?_ (fun hHeld => ?_)
        · (try dsimp only); exact keepS HC.out (hHeld.1.trans (hb1.mono hHeld.1.size))
        clear hK K
        try simp only [Act.put, List.setIfInBounds_toArray, List.set_cons_zero, List.set_cons_succ]
        refine wpAnyH_ready (rs := [20, 23]) (by kernel_rfl) (by simp) ?_
        refine AllReadyH.cons hop4_11_20 (fun K hK => ?_) ?_
        · have hcv := own_convE HO.out HE2.out
          go_simp
          refine hK.out _ _ ?_ (fun hHeld => ?_)
          · (try dsimp only); exact hHeld
          clear hK K
          try simp only [Act.put, List.setIfInBounds_toArray, List.set_cons_zero, List.set_cons_succ]
          refine wpAnyH_ready (rs := [23]) (by kernel_rfl) (by simp) ?_
          refine AllReadyH.cons hop4_11_23 (fun K hK => ?_) AllReadyH.nil
          go_simp
          go_at_call 41; (with_reducible refine (HR5.out _).mono ?_); rintro e w1 ⟨rfl, hb1⟩; (try have HO := hid (own_below HO.out hb1))
          refine hK.out _ _ ?_ (fun hHeld => ?_)
          · (try dsimp only); exact keepS HC.out (hHeld.1.trans (hb1.mono hHeld.1.size))
          clear hK K
          try simp only [Act.put, List.setIfInBounds_toArray, List.set_cons_zero, List.set_cons_succ]
          refine wpAnyH_take (i := 24) (v := ?_) hop4_11_24 (by kernel_rfl) (by kernel_rfl) (by kernel_rfl) (fun _ _ _ h => h) (Or.inl ⟨by rfl, ?hyatt42⟩) (by assumption) ?restatt42
          case hyatt42 => (intro w hSw; (try dsimp only at hSw); go_simp; first | (with_reducible rfl) | (rw [if_neg (by omega)]) | skip)
          simp only [Act.put, List.setIfInBounds_toArray, List.set_cons_zero, List.set_cons_succ]
          refine wpAnyH_take (i := 25) (v := ?_) hop4_11_25 (by kernel_rfl) (by kernel_rfl) (by kernel_rfl) (fun _ _ _ h => h) (Or.inl ⟨by rfl, ?hyatt43⟩) (by assumption) ?restatt43
          case hyatt43 => (intro w hSw; (try dsimp only at hSw); go_simp; first | (with_reducible rfl) | (rw [if_neg (by omega)]) | skip)
          simp only [Act.put, List.setIfInBounds_toArray, List.set_cons_zero, List.set_cons_succ]
          refine wpAnyH_take (i := 26) (v := ?_) hop4_11_26 (by kernel_rfl) (by kernel_rfl) (by kernel_rfl) (fun _ _ _ h => h) (Or.inl ⟨by rfl, ?hyatt44⟩) (by assumption) ?restatt44
          case hyatt44 => (intro w hSw; (try dsimp only at hSw); go_simp; first | (with_reducible rfl) | (rw [if_neg (by omega)]) | skip)
          simp only [Act.put, List.setIfInBounds_toArray, List.set_cons_zero, List.set_cons_succ]
          refine wpAnyH_take (i := 27) (v := ?_) hop4_11_27 (by kernel_rfl) (by kernel_rfl) (by kernel_rfl) (fun _ _ _ h => h) (Or.inl ⟨by rfl, ?hyatt45⟩) (by assumption) ?restatt45
          case hyatt45 => (intro w hSw; (try dsimp only at hSw); go_simp; first | (with_reducible rfl) | (rw [if_neg (by omega)]) | skip)
          simp only [Act.put, List.setIfInBounds_toArray, List.set_cons_zero, List.set_cons_succ]
          refine wpAnyH_ready (rs := [28]) (by kernel_rfl) (by simp) ?_
          refine AllReadyH.cons hop4_11_28 (fun K hK => ?_) AllReadyH.nil
          go_simp
          go_at_call 42; (with_reducible refine (HR6.out _ hHeld.1).mono ?_); rintro e w1 ⟨rfl, hb1⟩
          refine hK.out _ _ ?_ (fun hHeld => ?_)
          · (try dsimp only); exact keepS HC.out (hHeld.1.trans (hb1.mono hHeld.1.size))
          clear hK K
          try simp only [Act.put, List.setIfInBounds_toArray, List.set_cons_zero, List.set_cons_succ]
          refine wpAnyH_take (i := 29) (v := ?_) hop4_11_29 (by kernel_rfl) (by kernel_rfl) (by kernel_rfl) (fun _ _ _ h => h) (Or.inl ⟨by rfl, ?hyatt46⟩) (by assumption) ?restatt46
          case hyatt46 => (intro w hSw; (try dsimp only at hSw); go_simp; first | (with_reducible rfl) | (rw [if_neg (by omega)]) | skip)
          simp only [Act.put, List.setIfInBounds_toArray, List.set_cons_zero, List.set_cons_succ]
          refine wpAnyH_take (i := 30) (v := ?_) hop4_11_30 (by kernel_rfl) (by kernel_rfl) (by kernel_rfl) (fun _ _ _ h => h) (Or.inl ⟨by rfl, ?hyatt47⟩) (by assumption) ?restatt47
          case hyatt47 => (intro w hSw; (try dsimp only at hSw); go_simp; first | (with_reducible rfl) | (rw [if_neg (by omega)]) | skip)
          simp only [Act.put, List.setIfInBounds_toArray, List.set_cons_zero, List.set_cons_succ]
          refine wpAnyH_done (by kernel_rfl) ?_ _
          refine NoPanic.normal ?_
          exact HQ.out _ _ _ _ _ _ _ _ _ _ _ _ _ _ _ _ _ _ _ _ _ _ _ _ _ _ _ _ _ _ _ hHeld.1
        refine AllReadyH.cons hop4_11_23 (fun K hK => ?_) ?_
        · go_simp
          go_at_call 41; (with_reducible refine (HR5.out _).mono ?_); rintro e w1 ⟨rfl, hb1⟩; (try have HO := hid (own_below HO.out hb1))
          refine hK.out _ _ ?_ (fun hHeld => ?_)
          · (try dsimp only); exact keepS HC.out (hHeld.1.trans (hb1.mono hHeld.1.size))
          clear hK K
          try simp only [Act.put, List.setIfInBounds_toArray, List.set_cons_zero, List.set_cons_succ]
          refine wpAnyH_ready (rs := [20]) (by kernel_rfl) (by simp) ?_
          refine AllReadyH.cons hop4_11_20 (fun K hK => ?_) AllReadyH.nil
          have hcv := own_convE HO.out HE2.out
          go_simp
          refine hK.out _ _ ?_ (fun hHeld => ?_)
          · (try dsimp only); exact hHeld
          clear hK K
          try simp only [Act.put, List.setIfInBounds_toArray, List.set_cons_zero, List.set_cons_succ]
          refine wpAnyH_take (i := 24) (v := ?_) hop4_11_24 (by kernel_rfl) (by kernel_rfl) (by kernel_rfl) (fun _ _ _ h => h) (Or.inl ⟨by rfl, ?hyatt48⟩) (by assumption) ?restatt48
          case hyatt48 => (intro w hSw; (try dsimp only at hSw); go_simp; first | (with_reducible rfl) | (rw [if_neg (by omega)]) | skip)
          simp only [Act.put, List.setIfInBounds_toArray, List.set_cons_zero, List.set_cons_succ]
          refine wpAnyH_take (i := 25) (v := ?_) hop4_11_25 (by kernel_rfl) (by kernel_rfl) (by kernel_rfl) (fun _ _ _ h => h) (Or.inl ⟨by rfl, ?hyatt49⟩) (by assumption) ?restatt49
          case hyatt49 => (intro w hSw; (try dsimp only at hSw); go_simp; first | (with_reducible rfl) | (rw [if_neg (by omega)]) | skip)
          simp only [Act.put, List.setIfInBounds_toArray, List.set_cons_zero, List.set_cons_succ]
          refine wpAnyH_take (i := 26) (v := ?_) hop4_11_26 (by kernel_rfl) (by kernel_rfl) (by kernel_rfl) (fun _ _ _ h => h) (Or.inl ⟨by rfl, ?hyatt50⟩) (by assumption) ?restatt50
          case hyatt50 => (intro w hSw; (try dsimp only at hSw); go_simp; first | (with_reducible rfl) | (rw [if_neg (by omega)]) | skip)
          simp only [Act.put, List.setIfInBounds_toArray, List.set_cons_zero, List.set_cons_succ]
          refine wpAnyH_take (i := 27) (v := ?_) hop4_11_27 (by kernel_rfl) (by kernel_rfl) (by kernel_rfl) (fun _ _ _ h => h) (Or.inl ⟨by rfl, ?hyatt51⟩) (by assumption) ?restatt51
          case hyatt51 => (intro w hSw; (try dsimp only at hSw); go_simp; first | (with_reducible rfl) | (rw [if_neg (by omega)]) | skip)
          simp only [Act.put, List.setIfInBounds_toArray, List.set_cons_zero, List.set_cons_succ]
          refine wpAnyH_ready (rs := [28]) (by kernel_rfl) (by simp) ?_
          refine AllReadyH.cons hop4_11_28 (fun K hK => ?_) AllReadyH.nil
          go_simp
          go_at_call 42; (with_reducible refine (HR6.out _ hHeld.1).mono ?_); rintro e w1 ⟨rfl, hb1⟩
          refine hK.out _ _ ?_ (fun hHeld => ?_)
          · (try dsimp only); exact keepS HC.out (hHeld.1.trans (hb1.mono hHeld.1.size))
          clear hK K
          try simp only [Act.put, List.setIfInBounds_toArray, List.set_cons_zero, List.set_cons_succ]
          refine wpAnyH_take (i := 29) (v := ?_) hop4_11_29 (by kernel_rfl) (by kernel_rfl) (by kernel_rfl) (fun _ _ _ h => h) (Or.inl ⟨by rfl, ?hyatt52⟩) (by assumption) ?restatt52
          case hyatt52 => (intro w hSw; (try dsimp only at hSw); go_simp; first | (with_reducible rfl) | (rw [if_neg (by omega)]) | skip)
          simp only [Act.put, List.setIfInBounds_toArray, List.set_cons_zero, List.set_cons_succ]
          refine wpAnyH_take (i := 30) (v := ?_) hop4_11_30 (by kernel_rfl) (by kernel_rfl) (by kernel_rfl) (fun _ _ _ h => h) (Or.inl ⟨by rfl, ?hyatt53⟩) (by assumption) ?restatt53
          case hyatt53 => (intro w hSw; (try dsimp only at hSw); go_simp; first | (with_reducible rfl) | (rw [if_neg (by omega)]) | skip)
          simp only [Act.put, List.setIfInBounds_toArray, List.set_cons_zero, List.set_cons_succ]
          refine wpAnyH_done (by kernel_rfl) ?_ _
          refine NoPanic.normal ?_
          exact HQ.out _ _ _ _ _ _ _ _ _ _ _ _ _ _ _ _ _ _ _ _ _ _ _ _ _ _ _ _ _ _ _ hHeld.1
        exact AllReadyH.nil
      exact AllReadyH.nil
    | false =>
      refine wp_region_noPanic ?_
      refine wp_region_held_drew (S := (fun W => Below wb.heap.size wb W ∧ W.cell? ⟨X, 0, none⟩ = some (.int .u8 vv) ∧ W.cell? ⟨X, 1, none⟩ = some (.string p) ∧ W.cell? ⟨X, 2, none⟩ = some (.string r) ∧ W.cell? ⟨X, 3, none⟩ = some (.bool lm) ∧ W.cell? ⟨X, 4, none⟩ = some (.int .u32 la) ∧ W.cell? ⟨X, 5, none⟩ = some (.int .u32 lb) ∧ W.cell? ⟨X, 6, none⟩ = some (.int .u8 tv) ∧ W.cell? ⟨X, 7, none⟩ = some (.bool tm) ∧ W.cell? ⟨X, 8, none⟩ = some (.int .u32 ta) ∧ W.cell? ⟨X, 9, none⟩ = some (.int .u32 tb) ∧ W.cell? ⟨X, 10, none⟩ = some (.int .u8 gv) ∧ W.cell? ⟨X, 11, none⟩ = some (.bool gm) ∧ W.cell? ⟨Y, 0, none⟩ = some (.string s) ∧ W.cell? ⟨Y, 1, none⟩ = some (.string u) ∧ W.cell? ⟨g5, 0, none⟩ = some (.slice A0 (bytesOf p).length c0) ∧ W.cell? ⟨g5, 1, none⟩ = some (.slice A1 (bytesOf r).length c1) ∧ W.cell? ⟨g6, 0, none⟩ = some (.bool lm) ∧ W.cell? ⟨g6, 1, none⟩ = some (.int .u32 la) ∧ W.cell? ⟨g6, 2, none⟩ = some (.int .u32 lb) ∧ W.cell? ⟨g7, 0, none⟩ = some (.int .u8 tv) ∧ W.cell? ⟨g7, 1, none⟩ = some (.bool tm) ∧ W.cell? ⟨g7, 2, none⟩ = some (.int .u32 ta) ∧ W.cell? ⟨g7, 3, none⟩ = some (.int .u32 tb) ∧ W.cell? ⟨g8, 0, none⟩ = some (.int .u8 gv) ∧ W.cell? ⟨g8, 1, none⟩ = some (.bool gm))) (by kernel_rfl) ?hSatf1 (fun hHeld => ?goatf1)
      case hSatf1 => exact keepS HC.out HB.out.drew
      refine wpAnyH_take (i := 0) (v := ?_) hop4_11_0 (by kernel_rfl) (by kernel_rfl) (by kernel_rfl) (fun _ _ _ h => h) (Or.inl ⟨by rfl, ?hyatf2⟩) (by assumption) ?restatf2
      case hyatf2 => (intro w hSw; (try dsimp only at hSw); go_simp; first | (with_reducible rfl) | (rw [if_neg (by omega)]) | skip)
      simp only [Act.put, List.setIfInBounds_toArray, List.set_cons_zero, List.set_cons_succ]
      refine wpAnyH_take (i := 1) (v := ?_) hop4_11_1 (by kernel_rfl) (by kernel_rfl) (by kernel_rfl) (fun _ _ _ h => h) (Or.inl ⟨by rfl, ?hyatf3⟩) (by assumption) ?restatf3
      case hyatf3 => (intro w hSw; (try dsimp only at hSw); go_simp; first | (with_reducible rfl) | (rw [if_neg (by omega)]) | skip)
      simp only [Act.put, List.setIfInBounds_toArray, List.set_cons_zero, List.set_cons_succ]
      refine wpAnyH_take (i := 2) (v := ?_) hop4_11_2 (by kernel_rfl) (by kernel_rfl) (by kernel_rfl) (fun _ _ _ h => h) (Or.inl ⟨by rfl, ?hyatf4⟩) (by assumption) ?restatf4
      case hyatf4 => (intro w hSw; (try dsimp only at hSw); go_simp; first | (with_reducible rfl) | (rw [if_neg (by omega)]) | skip)
      simp only [Act.put, List.setIfInBounds_toArray, List.set_cons_zero, List.set_cons_succ]
      refine wpAnyH_take (i := 3) (v := ?_) hop4_11_3 (by kernel_rfl) (by kernel_rfl) (by kernel_rfl) (fun _ _ _ h => h) (Or.inl ⟨by rfl, ?hyatf5⟩) (by assumption) ?restatf5
      case hyatf5 => (intro w hSw; (try dsimp only at hSw); go_simp; first | (with_reducible rfl) | (rw [if_neg (by omega)]) | skip)
      simp only [Act.put, List.setIfInBounds_toArray, List.set_cons_zero, List.set_cons_succ]
      refine wpAnyH_take (i := 6) (v := ?_) hop4_11_6 (by kernel_rfl) (by kernel_rfl) (by kernel_rfl) (fun _ _ _ h => h) (Or.inl ⟨by rfl, ?hyatf6⟩) (by assumption) ?restatf6
      case hyatf6 => (intro w hSw; (try dsimp only at hSw); go_simp; first | (with_reducible rfl) | (rw [if_neg (by omega)]) | skip)
      simp only [Act.put, List.setIfInBounds_toArray, List.set_cons_zero, List.set_cons_succ]
      refine wpAnyH_take (i := 7) (v := ?_) hop4_11_7 (by kernel_rfl) (by kernel_rfl) (by kernel_rfl) (fun _ _ _ h => h) (Or.inl ⟨by rfl, ?hyatf7⟩) (by assumption) ?restatf7
      case hyatf7 => (intro w hSw; (try dsimp only at hSw); go_simp; first | (with_reducible rfl) | (rw [if_neg (by omega)]) | skip)
      simp only [Act.put, List.setIfInBounds_toArray, List.set_cons_zero, List.set_cons_succ]
      refine wpAnyH_ready (rs := [4]) (by kernel_rfl) (by simp) ?_
      refine AllReadyH.cons hop4_11_4 (fun K hK => ?_) AllReadyH.nil
      go_simp
      go_at_call 38; (with_reducible refine (HR1.out _).mono ?_); rintro e w1 ⟨v1, rfl, ho, hb1⟩; have HO := ho; clear ho
      refine hK.out _ _ ?_ (fun hHeld => ?_)
      · (try dsimp only); exact keepS HC.out (hHeld.1.trans (hb1.mono hHeld.1.size))
      clear hK K
      try simp only [Act.put, List.setIfInBounds_toArray, List.set_cons_zero, List.set_cons_succ]
      refine wpAnyH_ready (rs := [5, 8]) (by kernel_rfl) (by simp) ?_
      refine AllReadyH.cons hop4_11_5 (fun K hK => ?_) ?_
      · have hcv := own_convE HO.out HE1.out
        go_simp
        refine hK.out _ _ ?_ (fun hHeld => ?_)
        · (try dsimp only); exact hHeld
        clear hK K
        try simp only [Act.put, List.setIfInBounds_toArray, List.set_cons_zero, List.set_cons_succ]
        refine wpAnyH_ready (rs := [8]) (by kernel_rfl) (by simp) ?_
        refine AllReadyH.cons hop4_11_8 (fun K hK => ?_) AllReadyH.nil
        go_simp
        go_at_call 39; (with_reducible refine (HR2.out _).mono ?_); rintro e w1 ⟨rfl, hb1⟩; (try have HO := hid (own_below HO.out hb1))
        refine hK.out _ _ ?_ (fun hHeld => ?_)
        · (try dsimp only); exact keepS HC.out (hHeld.1.trans (hb1.mono hHeld.1.size))
        clear hK K
        try simp only [Act.put, List.setIfInBounds_toArray, List.set_cons_zero, List.set_cons_succ]
        refine wpAnyH_take (i := 9) (v := ?_) hop4_11_9 (by kernel_rfl) (by kernel_rfl) (by kernel_rfl) (fun _ _ _ h => h) (Or.inl ⟨by rfl, ?hyatf8⟩) (by assumption) ?restatf8
        case hyatf8 => (intro w hSw; (try dsimp only at hSw); go_simp; first | (with_reducible rfl) | (rw [if_neg (by omega)]) | skip)
        simp only [Act.put, List.setIfInBounds_toArray, List.set_cons_zero, List.set_cons_succ]
        refine wpAnyH_take (i := 10) (v := ?_) hop4_11_10 (by kernel_rfl) (by kernel_rfl) (by kernel_rfl) (fun _ _ _ h => h) (Or.inl ⟨by rfl, ?hyatf9⟩) (by assumption) ?restatf9
        case hyatf9 => (intro w hSw; (try dsimp only at hSw); go_simp; first | (with_reducible rfl) | (rw [if_neg (by omega)]) | skip)
        simp only [Act.put, List.setIfInBounds_toArray, List.set_cons_zero, List.set_cons_succ]
        refine wpAnyH_take (i := 11) (v := ?_) hop4_11_11 (by kernel_rfl) (by kernel_rfl) (by kernel_rfl) (fun _ _ _ h => h) (Or.inl ⟨by rfl, ?hyatf10⟩) (by assumption) ?restatf10
        case hyatf10 => (intro w hSw; (try dsimp only at hSw); go_simp; first | (with_reducible rfl) | (rw [if_neg (by omega)]) | skip)
        simp only [Act.put, List.setIfInBounds_toArray, List.set_cons_zero, List.set_cons_succ]
        refine wpAnyH_take (i := 12) (v := ?_) hop4_11_12 (by kernel_rfl) (by kernel_rfl) (by kernel_rfl) (fun _ _ _ h => h) (Or.inl ⟨by rfl, ?hyatf11⟩) (by assumption) ?restatf11
        case hyatf11 => (intro w hSw; (try dsimp only at hSw); go_simp; first | (with_reducible rfl) | (rw [if_neg (by omega)]) | skip)
        simp only [Act.put, List.setIfInBounds_toArray, List.set_cons_zero, List.set_cons_succ]
        refine wpAnyH_take (i := 13) (v := ?_) hop4_11_13 (by kernel_rfl) (by kernel_rfl) (by kernel_rfl) (fun _ _ _ h => h) (Or.inl ⟨by rfl, ?hyatf12⟩) (by assumption) ?restatf12
        case hyatf12 => (intro w hSw; (try dsimp only at hSw); go_simp; first | (with_reducible rfl) | (rw [if_neg (by omega)]) | skip)
        simp only [Act.put, List.setIfInBounds_toArray, List.set_cons_zero, List.set_cons_succ]
        refine wpAnyH_take (i := 14) (v := ?_) hop4_11_14 (by kernel_rfl) (by kernel_rfl) (by kernel_rfl) (fun _ _ _ h => h) (Or.inl ⟨by rfl, ?hyatf13⟩) (by assumption) ?restatf13
        case hyatf13 => (intro w hSw; (try dsimp only at hSw); go_simp; first | (with_reducible rfl) | (rw [if_neg (by omega)]) | skip)
        simp only [Act.put, List.setIfInBounds_toArray, List.set_cons_zero, List.set_cons_succ]
        refine wpAnyH_ready (rs := [15]) (by kernel_rfl) (by simp) ?_
        refine AllReadyH.cons hop4_11_15 (fun K hK => ?_) AllReadyH.nil
        go_simp
        go_at_call 28; (with_reducible refine (HR3.out _).mono ?_); rintro e w1 ⟨rfl, hb1⟩
        refine hK.out _ _ ?_ (fun hHeld => ?_)
        · (try dsimp only); exact keepS HC.out (hHeld.1.trans (hb1.mono hHeld.1.size))
        clear hK K
        try simp only [Act.put, List.setIfInBounds_toArray, List.set_cons_zero, List.set_cons_succ]
        refine wpAnyH_take (i := 16) (v := ?_) hop4_11_16 (by kernel_rfl) (by kernel_rfl) (by kernel_rfl) (fun _ _ _ h => h) (Or.inl ⟨by rfl, ?hyatf14⟩) (by assumption) ?restatf14
        case hyatf14 => (intro w hSw; (try dsimp only at hSw); go_simp; first | (with_reducible rfl) | (rw [if_neg (by omega)]) | skip)
        simp only [Act.put, List.setIfInBounds_toArray, List.set_cons_zero, List.set_cons_succ]
        refine wpAnyH_take (i := 17) (v := ?_) hop4_11_17 (by kernel_rfl) (by kernel_rfl) (by kernel_rfl) (fun _ _ _ h => h) (Or.inl ⟨by rfl, ?hyatf15⟩) (by assumption) ?restatf15
        case hyatf15 => (intro w hSw; (try dsimp only at hSw); go_simp; first | (with_reducible rfl) | (rw [if_neg (by omega)]) | skip)
        simp only [Act.put, List.setIfInBounds_toArray, List.set_cons_zero, List.set_cons_succ]
        refine wpAnyH_take (i := 18) (v := undef) hop4_11_18 (by kernel_rfl) (by kernel_rfl) (by kernel_rfl) (fun _ _ _ h => h) (Or.inr ⟨by rfl, rfl⟩) (by assumption) ?_
        simp only [Act.put, List.setIfInBounds_toArray, List.set_cons_zero, List.set_cons_succ]
        refine wpAnyH_take (i := 19) (v := undef) hop4_11_19 (by kernel_rfl) (by kernel_rfl) (by kernel_rfl) (fun _ _ _ h => h) (Or.inr ⟨by rfl, rfl⟩) (by assumption) ?_
        simp only [Act.put, List.setIfInBounds_toArray, List.set_cons_zero, List.set_cons_succ]
        refine wpAnyH_take (i := 20) (v := undef) hop4_11_20 (by kernel_rfl) (by kernel_rfl) (by kernel_rfl) (fun _ _ _ h => h) (Or.inr ⟨by rfl, rfl⟩) (by assumption) ?_
        simp only [Act.put, List.setIfInBounds_toArray, List.set_cons_zero, List.set_cons_succ]
        refine wpAnyH_take (i := 21) (v := undef) hop4_11_21 (by kernel_rfl) (by kernel_rfl) (by kernel_rfl) (fun _ _ _ h => h) (Or.inr ⟨by rfl, rfl⟩) (by assumption) ?_
        simp only [Act.put, List.setIfInBounds_toArray, List.set_cons_zero, List.set_cons_succ]
        refine wpAnyH_take (i := 22) (v := undef) hop4_11_22 (by kernel_rfl) (by kernel_rfl) (by kernel_rfl) (fun _ _ _ h => h) (Or.inr ⟨by rfl, rfl⟩) (by assumption) ?_
        simp only [Act.put, List.setIfInBounds_toArray, List.set_cons_zero, List.set_cons_succ]
        refine wpAnyH_take (i := 23) (v := undef) hop4_11_23 (by kernel_rfl) (by kernel_rfl) (by kernel_rfl) (fun _ _ _ h => h) (Or.inr ⟨by rfl, rfl⟩) (by assumption) ?_
        simp only [Act.put, List.setIfInBounds_toArray, List.set_cons_zero, List.set_cons_succ]
        refine wpAnyH_take (i := 24) (v := undef) hop4_11_24 (by kernel_rfl) (by kernel_rfl) (by kernel_rfl) (fun _ _ _ h => h) (Or.inr ⟨by rfl, rfl⟩) (by assumption) ?_
        simp only [Act.put, List.setIfInBounds_toArray, List.set_cons_zero, List.set_cons_succ]
        refine wpAnyH_take (i := 25) (v := ?_) hop4_11_25 (by kernel_rfl) (by kernel_rfl) (by kernel_rfl) (fun _ _ _ h => h) (Or.inl ⟨by rfl, ?hyatf16⟩) (by assumption) ?restatf16
        case hyatf16 => (intro w hSw; (try dsimp only at hSw); go_simp; first | (with_reducible rfl) | (rw [if_neg (by omega)]) | skip)
        simp only [Act.put, List.setIfInBounds_toArray, List.set_cons_zero, List.set_cons_succ]
        refine wpAnyH_take (i := 26) (v := ?_) hop4_11_26 (by kernel_rfl) (by kernel_rfl) (by kernel_rfl) (fun _ _ _ h => h) (Or.inl ⟨by rfl, ?hyatf17⟩) (by assumption) ?restatf17
        case hyatf17 => (intro w hSw; (try dsimp only at hSw); go_simp; first | (with_reducible rfl) | (rw [if_neg (by omega)]) | skip)
        simp only [Act.put, List.setIfInBounds_toArray, List.set_cons_zero, List.set_cons_succ]
        refine wpAnyH_take (i := 27) (v := ?_) hop4_11_27 (by kernel_rfl) (by kernel_rfl) (by kernel_rfl) (fun _ _ _ h => h) (Or.inl ⟨by rfl, ?hyatf18⟩) (by assumption) ?restatf18
        case hyatf18 => (intro w hSw; (try dsimp only at hSw); go_simp; first | (with_reducible rfl) | (rw [if_neg (by omega)]) | skip)
        simp only [Act.put, List.setIfInBounds_toArray, List.set_cons_zero, List.set_cons_succ]
        refine wpAnyH_ready (rs := [28]) (by kernel_rfl) (by simp) ?_
        refine AllReadyH.cons hop4_11_28 (fun K hK => ?_) AllReadyH.nil
        go_simp
        go_at_call 42; (with_reducible refine (HR6.out _ hHeld.1).mono ?_); rintro e w1 ⟨rfl, hb1⟩
        refine hK.out _ _ ?_ (fun hHeld => ?_)
        · (try dsimp only); exact keepS HC.out (hHeld.1.trans (hb1.mono hHeld.1.size))
        clear hK K
        try simp only [Act.put, List.setIfInBounds_toArray, List.set_cons_zero, List.set_cons_succ]
        refine wpAnyH_take (i := 29) (v := ?_) hop4_11_29 (by kernel_rfl) (by kernel_rfl) (by kernel_rfl) (fun _ _ _ h => h) (Or.inl ⟨by rfl, ?hyatf19⟩) (by assumption) ?restatf19
        case hyatf19 => (intro w hSw; (try dsimp only at hSw); go_simp; first | (with_reducible rfl) | (rw [if_neg (by omega)]) | skip)
        simp only [Act.put, List.setIfInBounds_toArray, List.set_cons_zero, List.set_cons_succ]
        refine wpAnyH_take (i := 30) (v := ?_) hop4_11_30 (by kernel_rfl) (by kernel_rfl) (by kernel_rfl) (fun _ _ _ h => h) (Or.inl ⟨by rfl, ?hyatf20⟩) (by assumption) ?restatf20
        case hyatf20 => (intro w hSw; (try dsimp only at hSw); go_simp; first | (with_reducible rfl) | (rw [if_neg (by omega)]) | skip)
        simp only [Act.put, List.setIfInBounds_toArray, List.set_cons_zero, List.set_cons_succ]
        refine wpAnyH_done (by kernel_rfl) ?_ _
        refine NoPanic.normal ?_
        exact HQ.out _ _ _ _ _ _ _ _ _ _ _ _ _ _ _ _ _ _ _ _ _ _ _ _ _ _ _ _ _ _ _ hHeld.1
      refine AllReadyH.cons hop4_11_8 (fun K hK => ?_) ?_
      · go_simp
        go_at_call 39; (with_reducible refine (HR2.out _).mono ?_); rintro e w1 ⟨rfl, hb1⟩; (try have HO := hid (own_below HO.out hb1))
        refine hK.out _ _ ?_ (fun hHeld => ?_)
        · (try dsimp only); exact keepS HC.out (hHeld.1.trans (hb1.mono hHeld.1.size))
        clear hK K
        try simp only [Act.put, List.setIfInBounds_toArray, List.set_cons_zero, List.set_cons_succ]
        refine wpAnyH_ready (rs := [5]) (by kernel_rfl) (by simp) ?_
        refine AllReadyH.cons hop4_11_5 (fun K hK => ?_) AllReadyH.nil
        have hcv := own_convE HO.out HE1.out
        go_simp
        refine hK.out _ _ ?_ (fun hHeld => ?_)
        · (try dsimp only); exact hHeld
        clear hK K
        try simp only [Act.put, List.setIfInBounds_toArray, List.set_cons_zero, List.set_cons_succ]
        refine wpAnyH_take (i := 9) (v := ?_) hop4_11_9 (by kernel_rfl) (by kernel_rfl) (by kernel_rfl) (fun _ _ _ h => h) (Or.inl ⟨by rfl, ?hyatf21⟩) (by assumption) ?restatf21
        case hyatf21 => (intro w hSw; (try dsimp only at hSw); go_simp; first | (with_reducible rfl) | (rw [if_neg (by omega)]) | skip)
        simp only [Act.put, List.setIfInBounds_toArray, List.set_cons_zero, List.set_cons_succ]
        refine wpAnyH_take (i := 10) (v := ?_) hop4_11_10 (by kernel_rfl) (by kernel_rfl) (by kernel_rfl) (fun _ _ _ h => h) (Or.inl ⟨by rfl, ?hyatf22⟩) (by assumption) ?restatf22
        case hyatf22 => (intro w hSw; (try dsimp only at hSw); go_simp; first | (with_reducible rfl) | (rw [if_neg (by omega)]) | skip)
        simp only [Act.put, List.setIfInBounds_toArray, List.set_cons_zero, List.set_cons_succ]
        refine wpAnyH_take (i := 11) (v := ?_) hop4_11_11 (by kernel_rfl) (by kernel_rfl) (by kernel_rfl) (fun _ _ _ h => h) (Or.inl ⟨by rfl, ?hyatf23⟩) (by assumption) ?restatf23
        case hyatf23 => (intro w hSw; (try dsimp only at hSw); go_simp; first | (with_reducible rfl) | (rw [if_neg (by omega)]) | skip)
        simp only [Act.put, List.setIfInBounds_toArray, List.set_cons_zero, List.set_cons_succ]
        refine wpAnyH_take (i := 12) (v := ?_) hop4_11_12 (by kernel_rfl) (by kernel_rfl) (by kernel_rfl) (fun _ _ _ h => h) (Or.inl ⟨by rfl, ?hyatf24⟩) (by assumption) ?restatf24
        case hyatf24 => (intro w hSw; (try dsimp only at hSw); go_simp; first | (with_reducible rfl) | (rw [if_neg (by omega)]) | skip)
        simp only [Act.put, List.setIfInBounds_toArray, List.set_cons_zero, List.set_cons_succ]
        refine wpAnyH_take (i := 13) (v := ?_) hop4_11_13 (by kernel_rfl) (by kernel_rfl) (by kernel_rfl) (fun _ _ _ h => h) (Or.inl ⟨by rfl, ?hyatf25⟩) (by assumption) ?restatf25
        case hyatf25 => (intro w hSw; (try dsimp only at hSw); go_simp; first | (with_reducible rfl) | (rw [if_neg (by omega)]) | skip)
        simp only [Act.put, List.setIfInBounds_toArray, List.set_cons_zero, List.set_cons_succ]
        refine wpAnyH_take (i := 14) (v := ?_) hop4_11_14 (by kernel_rfl) (by kernel_rfl) (by kernel_rfl) (fun _ _ _ h => h) (Or.inl ⟨by rfl, ?hyatf26⟩) (by assumption) ?restatf26
        case hyatf26 => (intro w hSw; (try dsimp only at hSw); go_simp; first | (with_reducible rfl) | (rw [if_neg (by omega)]) | skip)
        simp only [Act.put, List.setIfInBounds_toArray, List.set_cons_zero, List.set_cons_succ]
        refine wpAnyH_ready (rs := [15]) (by kernel_rfl) (by simp) ?_
        refine AllReadyH.cons hop4_11_15 (fun K hK => ?_) AllReadyH.nil
        go_simp
        go_at_call 28; (with_reducible refine (HR3.out _).mono ?_); rintro e w1 ⟨rfl, hb1⟩
        refine hK.out _ _ ?_ (fun hHeld => ?_)
        · (try dsimp only); exact keepS HC.out (hHeld.1.trans (hb1.mono hHeld.1.size))
        clear hK K
        try simp only [Act.put, List.setIfInBounds_toArray, List.set_cons_zero, List.set_cons_succ]
        refine wpAnyH_take (i := 16) (v := ?_) hop4_11_16 (by kernel_rfl) (by kernel_rfl) (by kernel_rfl) (fun _ _ _ h => h) (Or.inl ⟨by rfl, ?hyatf27⟩) (by assumption) ?restatf27
        case hyatf27 => (intro w hSw; (try dsimp only at hSw); go_simp; first | (with_reducible rfl) | (rw [if_neg (by omega)]) | skip)
        simp only [Act.put, List.setIfInBounds_toArray, List.set_cons_zero, List.set_cons_succ]
        refine wpAnyH_take (i := 17) (v := ?_) hop4_11_17 (by kernel_rfl) (by kernel_rfl) (by kernel_rfl) (fun _ _ _ h => h) (Or.inl ⟨by rfl, ?hyatf28⟩) (by assumption) ?restatf28
        case hyatf28 => (intro w hSw; (try dsimp only at hSw); go_simp; first | (with_reducible rfl) | (rw [if_neg (by omega)]) | skip)
        simp only [Act.put, List.setIfInBounds_toArray, List.set_cons_zero, List.set_cons_succ]
        refine wpAnyH_take (i := 18) (v := undef) hop4_11_18 (by kernel_rfl) (by kernel_rfl) (by kernel_rfl) (fun _ _ _ h => h) (Or.inr ⟨by rfl, rfl⟩) (by assumption) ?_
        simp only [Act.put, List.setIfInBounds_toArray, List.set_cons_zero, List.set_cons_succ]
        refine wpAnyH_take (i := 19) (v := undef) hop4_11_19 (by kernel_rfl) (by kernel_rfl) (by kernel_rfl) (fun _ _ _ h => h) (Or.inr ⟨by rfl, rfl⟩) (by assumption) ?_
        simp only [Act.put, List.setIfInBounds_toArray, List.set_cons_zero, List.set_cons_succ]
        refine wpAnyH_take (i := 20) (v := undef) hop4_11_20 (by kernel_rfl) (by kernel_rfl) (by kernel_rfl) (fun _ _ _ h => h) (Or.inr ⟨by rfl, rfl⟩) (by assumption) ?_
        simp only [Act.put, List.setIfInBounds_toArray, List.set_cons_zero, List.set_cons_succ]
        refine wpAnyH_take (i := 21) (v := undef) hop4_11_21 (by kernel_rfl) (by kernel_rfl) (by kernel_rfl) (fun _ _ _ h => h) (Or.inr ⟨by rfl, rfl⟩) (by assumption) ?_
        simp only [Act.put, List.setIfInBounds_toArray, List.set_cons_zero, List.set_cons_succ]
        refine wpAnyH_take (i := 22) (v := undef) hop4_11_22 (by kernel_rfl) (by kernel_rfl) (by kernel_rfl) (fun _ _ _ h => h) (Or.inr ⟨by rfl, rfl⟩) (by assumption) ?_
        simp only [Act.put, List.setIfInBounds_toArray, List.set_cons_zero, List.set_cons_succ]
        refine wpAnyH_take (i := 23) (v := undef) hop4_11_23 (by kernel_rfl) (by kernel_rfl) (by kernel_rfl) (fun _ _ _ h => h) (Or.inr ⟨by rfl, rfl⟩) (by assumption) ?_
        simp only [Act.put, List.setIfInBounds_toArray, List.set_cons_zero, List.set_cons_succ]
        refine wpAnyH_take (i := 24) (v := undef) hop4_11_24 (by kernel_rfl) (by kernel_rfl) (by kernel_rfl) (fun _ _ _ h => h) (Or.inr ⟨by rfl, rfl⟩) (by assumption) ?_
        simp only [Act.put, List.setIfInBounds_toArray, List.set_cons_zero, List.set_cons_succ]
        refine wpAnyH_take (i := 25) (v := ?_) hop4_11_25 (by kernel_rfl) (by kernel_rfl) (by kernel_rfl) (fun _ _ _ h => h) (Or.inl ⟨by rfl, ?hyatf29⟩) (by assumption) ?restatf29
        case hyatf29 => (intro w hSw; (try dsimp only at hSw); go_simp; first | (with_reducible rfl) | (rw [if_neg (by omega)]) | skip)
        simp only [Act.put, List.setIfInBounds_toArray, List.set_cons_zero, List.set_cons_succ]
        refine wpAnyH_take (i := 26) (v := ?_) hop4_11_26 (by kernel_rfl) (by kernel_rfl) (by kernel_rfl) (fun _ _ _ h => h) (Or.inl ⟨by rfl, ?hyatf30⟩) (by assumption) ?restatf30
        case hyatf30 => (intro w hSw; (try dsimp only at hSw); go_simp; first | (with_reducible rfl) | (rw [if_neg (by omega)]) | skip)
        simp only [Act.put, List.setIfInBounds_toArray, List.set_cons_zero, List.set_cons_succ]
        refine wpAnyH_take (i := 27) (v := ?_) hop4_11_27 (by kernel_rfl) (by kernel_rfl) (by kernel_rfl) (fun _ _ _ h => h) (Or.inl ⟨by rfl, ?hyatf31⟩) (by assumption) ?restatf31
        case hyatf31 => (intro w hSw; (try dsimp only at hSw); go_simp; first | (with_reducible rfl) | (rw [if_neg (by omega)]) | skip)
        simp only [Act.put, List.setIfInBounds_toArray, List.set_cons_zero, List.set_cons_succ]
        refine wpAnyH_ready (rs := [28]) (by kernel_rfl) (by simp) ?_
        refine AllReadyH.cons hop4_11_28 (fun K hK => ?_) AllReadyH.nil
        go_simp
        go_at_call 42; (with_reducible refine (HR6.out _ hHeld.1).mono ?_); rintro e w1 ⟨rfl, hb1⟩
        refine hK.out _ _ ?_ (fun hHeld => ?_)
        · (try dsimp only); exact keepS HC.out (hHeld.1.trans (hb1.mono hHeld.1.size))
        clear hK K
        try simp only [Act.put, List.setIfInBounds_toArray, List.set_cons_zero, List.set_cons_succ]
        refine wpAnyH_take (i := 29) (v := ?_) hop4_11_29 (by kernel_rfl) (by kernel_rfl) (by kernel_rfl) (fun _ _ _ h => h) (Or.inl ⟨by rfl, ?hyatf32⟩) (by assumption) ?restatf32
        case hyatf32 => (intro w hSw; (try dsimp only at hSw); go_simp; first | (with_reducible rfl) | (rw [if_neg (by omega)]) | skip)
        simp only [Act.put, List.setIfInBounds_toArray, List.set_cons_zero, List.set_cons_succ]
        refine wpAnyH_take (i := 30) (v := ?_) hop4_11_30 (by kernel_rfl) (by kernel_rfl) (by kernel_rfl) (fun _ _ _ h => h) (Or.inl ⟨by rfl, ?hyatf33⟩) (by assumption) ?restatf33
        case hyatf33 => (intro w hSw; (try dsimp only at hSw); go_simp; first | (with_reducible rfl) | (rw [if_neg (by omega)]) | skip)
        simp only [Act.put, List.setIfInBounds_toArray, List.set_cons_zero, List.set_cons_succ]
        refine wpAnyH_done (by kernel_rfl) ?_ _
        refine NoPanic.normal ?_
        exact HQ.out _ _ _ _ _ _ _ _ _ _ _ _ _ _ _ _ _ _ _ _ _ _ _ _ _ _ _ _ _ _ _ hHeld.1
      exact AllReadyH.nil
  | false =>
    cases bg with
    | true =>
      refine wp_region_noPanic ?_
      refine wp_region_held_drew (S := (fun W => Below wb.heap.size wb W ∧ W.cell? ⟨X, 0, none⟩ = some (.int .u8 vv) ∧ W.cell? ⟨X, 1, none⟩ = some (.string p) ∧ W.cell? ⟨X, 2, none⟩ = some (.string r) ∧ W.cell? ⟨X, 3, none⟩ = some (.bool lm) ∧ W.cell? ⟨X, 4, none⟩ = some (.int .u32 la) ∧ W.cell? ⟨X, 5, none⟩ = some (.int .u32 lb) ∧ W.cell? ⟨X, 6, none⟩ = some (.int .u8 tv) ∧ W.cell? ⟨X, 7, none⟩ = some (.bool tm) ∧ W.cell? ⟨X, 8, none⟩ = some (.int .u32 ta) ∧ W.cell? ⟨X, 9, none⟩ = some (.int .u32 tb) ∧ W.cell? ⟨X, 10, none⟩ = some (.int .u8 gv) ∧ W.cell? ⟨X, 11, none⟩ = some (.bool gm) ∧ W.cell? ⟨Y, 0, none⟩ = some (.string s) ∧ W.cell? ⟨Y, 1, none⟩ = some (.string u) ∧ W.cell? ⟨g5, 0, none⟩ = some (.slice A0 (bytesOf p).length c0) ∧ W.cell? ⟨g5, 1, none⟩ = some (.slice A1 (bytesOf r).length c1) ∧ W.cell? ⟨g6, 0, none⟩ = some (.bool lm) ∧ W.cell? ⟨g6, 1, none⟩ = some (.int .u32 la) ∧ W.cell? ⟨g6, 2, none⟩ = some (.int .u32 lb) ∧ W.cell? ⟨g7, 0, none⟩ = some (.int .u8 tv) ∧ W.cell? ⟨g7, 1, none⟩ = some (.bool tm) ∧ W.cell? ⟨g7, 2, none⟩ = some (.int .u32 ta) ∧ W.cell? ⟨g7, 3, none⟩ = some (.int .u32 tb) ∧ W.cell? ⟨g8, 0, none⟩ = some (.int .u8 gv) ∧ W.cell? ⟨g8, 1, none⟩ = some (.bool gm))) (by kernel_rfl) ?hSaft1 (fun hHeld => ?goaft1)
      case hSaft1 => exact keepS HC.out HB.out.drew
      refine wpAnyH_take (i := 0) (v := ?_) hop4_11_0 (by kernel_rfl) (by kernel_rfl) (by kernel_rfl) (fun _ _ _ h => h) (Or.inl ⟨by rfl, ?hyaft2⟩) (by assumption) ?restaft2
      case hyaft2 => (intro w hSw; (try dsimp only at hSw); go_simp; first | (with_reducible rfl) | (rw [if_neg (by omega)]) | skip)
      simp only [Act.put, List.setIfInBounds_toArray, List.set_cons_zero, List.set_cons_succ]
      refine wpAnyH_take (i := 1) (v := ?_) hop4_11_1 (by kernel_rfl) (by kernel_rfl) (by kernel_rfl) (fun _ _ _ h => h) (Or.inl ⟨by rfl, ?hyaft3⟩) (by assumption) ?restaft3
      case hyaft3 => (intro w hSw; (try dsimp only at hSw); go_simp; first | (with_reducible rfl) | (rw [if_neg (by omega)]) | skip)
      simp only [Act.put, List.setIfInBounds_toArray, List.set_cons_zero, List.set_cons_succ]
      refine wpAnyH_take (i := 2) (v := ?_) hop4_11_2 (by kernel_rfl) (by kernel_rfl) (by kernel_rfl) (fun _ _ _ h => h) (Or.inl ⟨by rfl, ?hyaft4⟩) (by assumption) ?restaft4
      case hyaft4 => (intro w hSw; (try dsimp only at hSw); go_simp; first | (with_reducible rfl) | (rw [if_neg (by omega)]) | skip)
      simp only [Act.put, List.setIfInBounds_toArray, List.set_cons_zero, List.set_cons_succ]
      refine wpAnyH_take (i := 3) (v := undef) hop4_11_3 (by kernel_rfl) (by kernel_rfl) (by kernel_rfl) (fun _ _ _ h => h) (Or.inr ⟨by rfl, rfl⟩) (by assumption) ?_
      simp only [Act.put, List.setIfInBounds_toArray, List.set_cons_zero, List.set_cons_succ]
      refine wpAnyH_take (i := 4) (v := undef) hop4_11_4 (by kernel_rfl) (by kernel_rfl) (by kernel_rfl) (fun _ _ _ h => h) (Or.inr ⟨by rfl, rfl⟩) (by assumption) ?_
      simp only [Act.put, List.setIfInBounds_toArray, List.set_cons_zero, List.set_cons_succ]
      refine wpAnyH_take (i := 5) (v := undef) hop4_11_5 (by kernel_rfl) (by kernel_rfl) (by kernel_rfl) (fun _ _ _ h => h) (Or.inr ⟨by rfl, rfl⟩) (by assumption) ?_
      simp only [Act.put, List.setIfInBounds_toArray, List.set_cons_zero, List.set_cons_succ]
      refine wpAnyH_take (i := 6) (v := undef) hop4_11_6 (by kernel_rfl) (by kernel_rfl) (by kernel_rfl) (fun _ _ _ h => h) (Or.inr ⟨by rfl, rfl⟩) (by assumption) ?_
      simp only [Act.put, List.setIfInBounds_toArray, List.set_cons_zero, List.set_cons_succ]
      refine wpAnyH_take (i := 7) (v := undef) hop4_11_7 (by kernel_rfl) (by kernel_rfl) (by kernel_rfl) (fun _ _ _ h => h) (Or.inr ⟨by rfl, rfl⟩) (by assumption) ?_
      simp only [Act.put, List.setIfInBounds_toArray, List.set_cons_zero, List.set_cons_succ]
      refine wpAnyH_take (i := 8) (v := undef) hop4_11_8 (by kernel_rfl) (by kernel_rfl) (by kernel_rfl) (fun _ _ _ h => h) (Or.inr ⟨by rfl, rfl⟩) (by assumption) ?_
      simp only [Act.put, List.setIfInBounds_toArray, List.set_cons_zero, List.set_cons_succ]
      refine wpAnyH_take (i := 9) (v := undef) hop4_11_9 (by kernel_rfl) (by kernel_rfl) (by kernel_rfl) (fun _ _ _ h => h) (Or.inr ⟨by rfl, rfl⟩) (by assumption) ?_
      simp only [Act.put, List.setIfInBounds_toArray, List.set_cons_zero, List.set_cons_succ]
      refine wpAnyH_take (i := 10) (v := ?_) hop4_11_10 (by kernel_rfl) (by kernel_rfl) (by kernel_rfl) (fun _ _ _ h => h) (Or.inl ⟨by rfl, ?hyaft5⟩) (by assumption) ?restaft5
      case hyaft5 => (intro w hSw; (try dsimp only at hSw); go_simp; first | (with_reducible rfl) | (rw [if_neg (by omega)]) | skip)
      simp only [Act.put, List.setIfInBounds_toArray, List.set_cons_zero, List.set_cons_succ]
      refine wpAnyH_take (i := 11) (v := ?_) hop4_11_11 (by kernel_rfl) (by kernel_rfl) (by kernel_rfl) (fun _ _ _ h => h) (Or.inl ⟨by rfl, ?hyaft6⟩) (by assumption) ?restaft6
      case hyaft6 => (intro w hSw; (try dsimp only at hSw); go_simp; first | (with_reducible rfl) | (rw [if_neg (by omega)]) | skip)
      simp only [Act.put, List.setIfInBounds_toArray, List.set_cons_zero, List.set_cons_succ]
      refine wpAnyH_take (i := 12) (v := ?_) hop4_11_12 (by kernel_rfl) (by kernel_rfl) (by kernel_rfl) (fun _ _ _ h => h) (Or.inl ⟨by rfl, ?hyaft7⟩) (by assumption) ?restaft7
      case hyaft7 => (intro w hSw; (try dsimp only at hSw); go_simp; first | (with_reducible rfl) | (rw [if_neg (by omega)]) | skip)
      simp only [Act.put, List.setIfInBounds_toArray, List.set_cons_zero, List.set_cons_succ]
      refine wpAnyH_take (i := 13) (v := ?_) hop4_11_13 (by kernel_rfl) (by kernel_rfl) (by kernel_rfl) (fun _ _ _ h => h) (Or.inl ⟨by rfl, ?hyaft8⟩) (by assumption) ?restaft8
      case hyaft8 => (intro w hSw; (try dsimp only at hSw); go_simp; first | (with_reducible rfl) | (rw [if_neg (by omega)]) | skip)
      simp only [Act.put, List.setIfInBounds_toArray, List.set_cons_zero, List.set_cons_succ]
      refine wpAnyH_take (i := 14) (v := ?_) hop4_11_14 (by kernel_rfl) (by kernel_rfl) (by kernel_rfl) (fun _ _ _ h => h) (Or.inl ⟨by rfl, ?hyaft9⟩) (by assumption) ?restaft9
      case hyaft9 => (intro w hSw; (try dsimp only at hSw); go_simp; first | (with_reducible rfl) | (rw [if_neg (by omega)]) | skip)
      simp only [Act.put, List.setIfInBounds_toArray, List.set_cons_zero, List.set_cons_succ]
      refine wpAnyH_ready (rs := [15]) (by kernel_rfl) (by simp) ?_
      refine AllReadyH.cons hop4_11_15 (fun K hK => ?_) AllReadyH.nil
      go_simp
      go_at_call 28; (with_reducible refine (HR3.out _).mono ?_); rintro e w1 ⟨rfl, hb1⟩
      refine hK.out _ _ ?_ (fun hHeld => ?_)
      · (try dsimp only); exact keepS HC.out (hHeld.1.trans (hb1.mono hHeld.1.size))
      clear hK K
      try simp only [Act.put, List.setIfInBounds_toArray, List.set_cons_zero, List.set_cons_succ]
      refine wpAnyH_take (i := 16) (v := ?_) hop4_11_16 (by kernel_rfl) (by kernel_rfl) (by kernel_rfl) (fun _ _ _ h => h) (Or.inl ⟨by rfl, ?hyaft10⟩) (by assumption) ?restaft10
      case hyaft10 => (intro w hSw; (try dsimp only at hSw); go_simp; first | (with_reducible rfl) | (rw [if_neg (by omega)]) | skip)
      simp only [Act.put, List.setIfInBounds_toArray, List.set_cons_zero, List.set_cons_succ]
      refine wpAnyH_take (i := 17) (v := ?_) hop4_11_17 (by kernel_rfl) (by kernel_rfl) (by kernel_rfl) (fun _ _ _ h => h) (Or.inl ⟨by rfl, ?hyaft11⟩) (by assumption) ?restaft11
      case hyaft11 => (intro w hSw; (try dsimp only at hSw); go_simp; first | (with_reducible rfl) | (rw [if_neg (by omega)]) | skip)
      simp only [Act.put, List.setIfInBounds_toArray, List.set_cons_zero, List.set_cons_succ]
      refine wpAnyH_take (i := 18) (v := ?_) hop4_11_18 (by kernel_rfl) (by kernel_rfl) (by kernel_rfl) (fun _ _ _ h => h) (Or.inl ⟨by rfl, ?hyaft12⟩) (by assumption) ?restaft12
      case hyaft12 => (intro w hSw; (try dsimp only at hSw); go_simp; first | (with_reducible rfl) | (rw [if_neg (by omega)]) | skip)
      simp only [Act.put, List.setIfInBounds_toArray, List.set_cons_zero, List.set_cons_succ]
      refine wpAnyH_take (i := 21) (v := ?_) hop4_11_21 (by kernel_rfl) (by kernel_rfl) (by kernel_rfl) (fun _ _ _ h => h) (Or.inl ⟨by rfl, ?hyaft13⟩) (by assumption) ?restaft13
      case hyaft13 => (intro w hSw; (try dsimp only at hSw); go_simp; first | (with_reducible rfl) | (rw [if_neg (by omega)]) | skip)
      simp only [Act.put, List.setIfInBounds_toArray, List.set_cons_zero, List.set_cons_succ]
      refine wpAnyH_take (i := 22) (v := ?_) hop4_11_22 (by kernel_rfl) (by kernel_rfl) (by kernel_rfl) (fun _ _ _ h => h) (Or.inl ⟨by rfl, ?hyaft14⟩) (by assumption) ?restaft14
      case hyaft14 => (intro w hSw; (try dsimp only at hSw); go_simp; first | (with_reducible rfl) | (rw [if_neg (by omega)]) | skip)
      simp only [Act.put, List.setIfInBounds_toArray, List.set_cons_zero, List.set_cons_succ]
      refine wpAnyH_ready (rs := [19]) (by kernel_rfl) (by simp) ?_
      refine AllReadyH.cons hop4_11_19 (fun K hK => ?_) AllReadyH.nil
      go_simp
      go_at_call 40; (with_reducible refine (HR4.out _).mono ?_); rintro e w1 ⟨v2, rfl, ho, hb1⟩; have HO := ho; clear ho
      refine hK.out _ _ ?_ (fun hHeld => ?_)
      · (try dsimp only); exact keepS HC.out (hHeld.1.trans (hb1.mono hHeld.1.size))
      clear hK K
      try simp only [Act.put, List.setIfInBounds_toArray, List.set_cons_zero, List.set_cons_succ]
      refine wpAnyH_ready (rs := [20, 23]) (by kernel_rfl) (by simp) ?_
      refine AllReadyH.cons hop4_11_20 (fun K hK => ?_) ?_
      · have hcv := own_convE HO.out HE2.out
        go_simp
        refine hK.out _ _ ?_ (fun hHeld => ?_)
        · (try dsimp only); exact hHeld
        clear hK K
        try simp only [Act.put, List.setIfInBounds_toArray, List.set_cons_zero, List.set_cons_succ]
        refine wpAnyH_ready (rs := [23]) (by kernel_rfl) (by simp) ?_
        refine AllReadyH.cons hop4_11_23 (fun K hK => ?_) AllReadyH.nil
        go_simp
        go_at_call 41; (with_reducible refine (HR5.out _).mono ?_); rintro e w1 ⟨rfl, hb1⟩; (try have HO := hid (own_below HO.out hb1))
        refine hK.out _ _ ?_ (fun hHeld => ?_)
        · (try dsimp only); exact keepS HC.out (hHeld.1.trans (hb1.mono hHeld.1.size))
        clear hK K
        try simp only [Act.put, List.setIfInBounds_toArray, List.set_cons_zero, List.set_cons_succ]
        refine wpAnyH_take (i := 24) (v := ?_) hop4_11_24 (by kernel_rfl) (by kernel_rfl) (by kernel_rfl) (fun _ _ _ h => h) (Or.inl ⟨by rfl, ?hyaft15⟩) (by assumption) ?restaft15
        case hyaft15 => (intro w hSw; (try dsimp only at hSw); go_simp; first | (with_reducible rfl) | (rw [if_neg (by omega)]) | skip)
        simp only [Act.put, List.setIfInBounds_toArray, List.set_cons_zero, List.set_cons_succ]
        refine wpAnyH_take (i := 25) (v := ?_) hop4_11_25 (by kernel_rfl) (by kernel_rfl) (by kernel_rfl) (fun _ _ _ h => h) (Or.inl ⟨by rfl, ?hyaft16⟩) (by assumption) ?restaft16
        case hyaft16 => (intro w hSw; (try dsimp only at hSw); go_simp; first | (with_reducible rfl) | (rw [if_neg (by omega)]) | skip)
        simp only [Act.put, List.setIfInBounds_toArray, List.set_cons_zero, List.set_cons_succ]
        refine wpAnyH_take (i := 26) (v := ?_) hop4_11_26 (by kernel_rfl) (by kernel_rfl) (by kernel_rfl) (fun _ _ _ h => h) (Or.inl ⟨by rfl, ?hyaft17⟩) (by assumption) ?restaft17
        case hyaft17 => (intro w hSw; (try dsimp only at hSw); go_simp; first | (with_reducible rfl) | (rw [if_neg (by omega)]) | skip)
        simp only [Act.put, List.setIfInBounds_toArray, List.set_cons_zero, List.set_cons_succ]
        refine wpAnyH_take (i := 27) (v := ?_) hop4_11_27 (by kernel_rfl) (by kernel_rfl) (by kernel_rfl) (fun _ _ _ h => h) (Or.inl ⟨by rfl, ?hyaft18⟩) (by assumption) ?restaft18
        case hyaft18 => (intro w hSw; (try dsimp only at hSw); go_simp; first | (with_reducible rfl) | (rw [if_neg (by omega)]) | skip)
        simp only [Act.put, List.setIfInBounds_toArray, List.set_cons_zero, List.set_cons_succ]
        refine wpAnyH_ready (rs := [28]) (by kernel_rfl) (by simp) ?_
        refine AllReadyH.cons hop4_11_28 (fun K hK => ?_) AllReadyH.nil
        go_simp
        go_at_call 42; (with_reducible refine (HR6.out _ hHeld.1).mono ?_); rintro e w1 ⟨rfl, hb1⟩
        refine hK.out _ _ ?_ (fun hHeld => ?_)
        · (try dsimp only); exact keepS HC.out (hHeld.1.trans (hb1.mono hHeld.1.size))
        clear hK K
        try simp only [Act.put, List.setIfInBounds_toArray, List.set_cons_zero, List.set_cons_succ]
        refine wpAnyH_take (i := 29) (v := ?_) hop4_11_29 (by kernel_rfl) (by kernel_rfl) (by kernel_rfl) (fun _ _ _ h => h) (Or.inl ⟨by rfl, ?hyaft19⟩) (by assumption) ?restaft19
        case hyaft19 => (intro w hSw; (try dsimp only at hSw); go_simp; first | (with_reducible rfl) | (rw [if_neg (by omega)]) | skip)
        simp only [Act.put, List.setIfInBounds_toArray, List.set_cons_zero, List.set_cons_succ]
        refine wpAnyH_take (i := 30) (v := ?_) hop4_11_30 (by kernel_rfl) (by kernel_rfl) (by kernel_rfl) (fun _ _ _ h => h) (Or.inl ⟨by rfl, ?hyaft20⟩) (by assumption) ?restaft20
        case hyaft20 => (intro w hSw; (try dsimp only at hSw); go_simp; first | (with_reducible rfl) | (rw [if_neg (by omega)]) | skip)
        simp only [Act.put, List.setIfInBounds_toArray, List.set_cons_zero, List.set_cons_succ]
        refine wpAnyH_done (by kernel_rfl) ?_ _
        refine NoPanic.normal ?_
        exact HQ.out _ _ _ _ _ _ _ _ _ _ _ _ _ _ _ _ _ _ _ _ _ _ _ _ _ _ _ _ _ _ _ hHeld.1
      refine AllReadyH.cons hop4_11_23 (fun K hK => ?_) ?_
      · go_simp
        go_at_call 41; (with_reducible refine (HR5.out _).mono ?_); rintro e w1 ⟨rfl, hb1⟩; (try have HO := hid (own_below HO.out hb1))
        refine hK.out _ _ ?_ (fun hHeld => ?_)
        · (try dsimp only); exact keepS HC.out (hHeld.1.trans (hb1.mono hHeld.1.size))
        clear hK K
        try simp only [Act.put, List.setIfInBounds_toArray, List.set_cons_zero, List.set_cons_succ]
        refine wpAnyH_ready (rs := [20]) (by kernel_rfl) (by simp) ?_
        refine AllReadyH.cons hop4_11_20 (fun K hK => ?_) AllReadyH.nil
        have hcv := own_convE HO.out HE2.out
        go_simp
        refine hK.out _ _ ?_ (fun hHeld => ?_)
        · (try dsimp only); exact hHeld
        clear hK K
        try simp only [Act.put, List.setIfInBounds_toArray, List.set_cons_zero, List.set_cons_succ]
        refine wpAnyH_take (i := 24) (v := ?_) hop4_11_24 (by kernel_rfl) (by kernel_rfl) (by kernel_rfl) (fun _ _ _ h => h) (Or.inl ⟨by rfl, ?hyaft21⟩) (by assumption) ?restaft21
        case hyaft21 => (intro w hSw; (try dsimp only at hSw); go_simp; first | (with_reducible rfl) | (rw [if_neg (by omega)]) | skip)
        simp only [Act.put, List.setIfInBounds_toArray, List.set_cons_zero, List.set_cons_succ]
        refine wpAnyH_take (i := 25) (v := ?_) hop4_11_25 (by kernel_rfl) (by kernel_rfl) (by kernel_rfl) (fun _ _ _ h => h) (Or.inl ⟨by rfl, ?hyaft22⟩) (by assumption) ?restaft22
        case hyaft22 => (intro w hSw; (try dsimp only at hSw); go_simp; first | (with_reducible rfl) | (rw [if_neg (by omega)]) | skip)
        simp only [Act.put, List.setIfInBounds_toArray, List.set_cons_zero, List.set_cons_succ]
        refine wpAnyH_take (i := 26) (v := ?_) hop4_11_26 (by kernel_rfl) (by kernel_rfl) (by kernel_rfl) (fun _ _ _ h => h) (Or.inl ⟨by rfl, ?hyaft23⟩) (by assumption) ?restaft23
        case hyaft23 => (intro w hSw; (try dsimp only at hSw); go_simp; first | (with_reducible rfl) | (rw [if_neg (by omega)]) | skip)
        simp only [Act.put, List.setIfInBounds_toArray, List.set_cons_zero, List.set_cons_succ]
        refine wpAnyH_take (i := 27) (v := ?_) hop4_11_27 (by kernel_rfl) (by kernel_rfl) (by kernel_rfl) (fun _ _ _ h => h) (Or.inl ⟨by rfl, ?hyaft24⟩) (by assumption) ?restaft24
        case hyaft24 => (intro w hSw; (try dsimp only at hSw); go_simp; first | (with_reducible rfl) | (rw [if_neg (by omega)]) | skip)
        simp only [Act.put, List.setIfInBounds_toArray, List.set_cons_zero, List.set_cons_succ]
        refine wpAnyH_ready (rs := [28]) (by kernel_rfl) (by simp) ?_
        refine AllReadyH.cons hop4_11_28 (fun K hK => ?_) AllReadyH.nil
        go_simp
        go_at_call 42; (with_reducible refine (HR6.out _ hHeld.1).mono ?_); rintro e w1 ⟨rfl, hb1⟩
        refine hK.out _ _ ?_ (fun hHeld => ?_)
        · (try dsimp only); exact keepS HC.out (hHeld.1.trans (hb1.mono hHeld.1.size))
        clear hK K
        try simp only [Act.put, List.setIfInBounds_toArray, List.set_cons_zero, List.set_cons_succ]
        refine wpAnyH_take (i := 29) (v := ?_) hop4_11_29 (by kernel_rfl) (by kernel_rfl) (by kernel_rfl) (fun _ _ _ h => h) (Or.inl ⟨by rfl, ?hyaft25⟩) (by assumption) ?restaft25
        case hyaft25 => (intro w hSw; (try dsimp only at hSw); go_simp; first | (with_reducible rfl) | (rw [if_neg (by omega)]) | skip)
        simp only [Act.put, List.setIfInBounds_toArray, List.set_cons_zero, List.set_cons_succ]
        refine wpAnyH_take (i := 30) (v := ?_) hop4_11_30 (by kernel_rfl) (by kernel_rfl) (by kernel_rfl) (fun _ _ _ h => h) (Or.inl ⟨by rfl, ?hyaft26⟩) (by assumption) ?restaft26
        case hyaft26 => (intro w hSw; (try dsimp only at hSw); go_simp; first | (with_reducible rfl) | (rw [if_neg (by omega)]) | skip)
        simp only [Act.put, List.setIfInBounds_toArray, List.set_cons_zero, List.set_cons_succ]
        refine wpAnyH_done (by kernel_rfl) ?_ _
        refine NoPanic.normal ?_
        exact HQ.out _ _ _ _ _ _ _ _ _ _ _ _ _ _ _ _ _ _ _ _ _ _ _ _ _ _ _ _ _ _ _ hHeld.1
      exact AllReadyH.nil
    | false =>
      refine wp_region_noPanic ?_
      refine wp_region_held_drew (S := (fun W => Below wb.heap.size wb W ∧ W.cell? ⟨X, 0, none⟩ = some (.int .u8 vv) ∧ W.cell? ⟨X, 1, none⟩ = some (.string p) ∧ W.cell? ⟨X, 2, none⟩ = some (.string r) ∧ W.cell? ⟨X, 3, none⟩ = some (.bool lm) ∧ W.cell? ⟨X, 4, none⟩ = some (.int .u32 la) ∧ W.cell? ⟨X, 5, none⟩ = some (.int .u32 lb) ∧ W.cell? ⟨X, 6, none⟩ = some (.int .u8 tv) ∧ W.cell? ⟨X, 7, none⟩ = some (.bool tm) ∧ W.cell? ⟨X, 8, none⟩ = some (.int .u32 ta) ∧ W.cell? ⟨X, 9, none⟩ = some (.int .u32 tb) ∧ W.cell? ⟨X, 10, none⟩ = some (.int .u8 gv) ∧ W.cell? ⟨X, 11, none⟩ = some (.bool gm) ∧ W.cell? ⟨Y, 0, none⟩ = some (.string s) ∧ W.cell? ⟨Y, 1, none⟩ = some (.string u) ∧ W.cell? ⟨g5, 0, none⟩ = some (.slice A0 (bytesOf p).length c0) ∧ W.cell? ⟨g5, 1, none⟩ = some (.slice A1 (bytesOf r).length c1) ∧ W.cell? ⟨g6, 0, none⟩ = some (.bool lm) ∧ W.cell? ⟨g6, 1, none⟩ = some (.int .u32 la) ∧ W.cell? ⟨g6, 2, none⟩ = some (.int .u32 lb) ∧ W.cell? ⟨g7, 0, none⟩ = some (.int .u8 tv) ∧ W.cell? ⟨g7, 1, none⟩ = some (.bool tm) ∧ W.cell? ⟨g7, 2, none⟩ = some (.int .u32 ta) ∧ W.cell? ⟨g7, 3, none⟩ = some (.int .u32 tb) ∧ W.cell? ⟨g8, 0, none⟩ = some (.int .u8 gv) ∧ W.cell? ⟨g8, 1, none⟩ = some (.bool gm))) (by kernel_rfl) ?hSaff1 (fun hHeld => ?goaff1)
      case hSaff1 => exact keepS HC.out HB.out.drew
      refine wpAnyH_take (i := 0) (v := ?_) hop4_11_0 (by kernel_rfl) (by kernel_rfl) (by kernel_rfl) (fun _ _ _ h => h) (Or.inl ⟨by rfl, ?hyaff2⟩) (by assumption) ?restaff2
      case hyaff2 => (intro w hSw; (try dsimp only at hSw); go_simp; first | (with_reducible rfl) | (rw [if_neg (by omega)]) | skip)
      simp only [Act.put, List.setIfInBounds_toArray, List.set_cons_zero, List.set_cons_succ]
      refine wpAnyH_take (i := 1) (v := ?_) hop4_11_1 (by kernel_rfl) (by kernel_rfl) (by kernel_rfl) (fun _ _ _ h => h) (Or.inl ⟨by rfl, ?hyaff3⟩) (by assumption) ?restaff3
      case hyaff3 => (intro w hSw; (try dsimp only at hSw); go_simp; first | (with_reducible rfl) | (rw [if_neg (by omega)]) | skip)
      simp only [Act.put, List.setIfInBounds_toArray, List.set_cons_zero, List.set_cons_succ]
      refine wpAnyH_take (i := 2) (v := ?_) hop4_11_2 (by kernel_rfl) (by kernel_rfl) (by kernel_rfl) (fun _ _ _ h => h) (Or.inl ⟨by rfl, ?hyaff4⟩) (by assumption) ?restaff4
      case hyaff4 => (intro w hSw; (try dsimp only at hSw); go_simp; first | (with_reducible rfl) | (rw [if_neg (by omega)]) | skip)
      simp only [Act.put, List.setIfInBounds_toArray, List.set_cons_zero, List.set_cons_succ]
      refine wpAnyH_take (i := 3) (v := undef) hop4_11_3 (by kernel_rfl) (by kernel_rfl) (by kernel_rfl) (fun _ _ _ h => h) (Or.inr ⟨by rfl, rfl⟩) (by assumption) ?_
      simp only [Act.put, List.setIfInBounds_toArray, List.set_cons_zero, List.set_cons_succ]
      refine wpAnyH_take (i := 4) (v := undef) hop4_11_4 (by kernel_rfl) (by kernel_rfl) (by kernel_rfl) (fun _ _ _ h => h) (Or.inr ⟨by rfl, rfl⟩) (by assumption) ?_
      simp only [Act.put, List.setIfInBounds_toArray, List.set_cons_zero, List.set_cons_succ]
      refine wpAnyH_take (i := 5) (v := undef) hop4_11_5 (by kernel_rfl) (by kernel_rfl) (by kernel_rfl) (fun _ _ _ h => h) (Or.inr ⟨by rfl, rfl⟩) (by assumption) ?_
      simp only [Act.put, List.setIfInBounds_toArray, List.set_cons_zero, List.set_cons_succ]
      refine wpAnyH_take (i := 6) (v := undef) hop4_11_6 (by kernel_rfl) (by kernel_rfl) (by kernel_rfl) (fun _ _ _ h => h) (Or.inr ⟨by rfl, rfl⟩) (by assumption) ?_
      simp only [Act.put, List.setIfInBounds_toArray, List.set_cons_zero, List.set_cons_succ]
      refine wpAnyH_take (i := 7) (v := undef) hop4_11_7 (by kernel_rfl) (by kernel_rfl) (by kernel_rfl) (fun _ _ _ h => h) (Or.inr ⟨by rfl, rfl⟩) (by assumption) ?_
      simp only [Act.put, List.setIfInBounds_toArray, List.set_cons_zero, List.set_cons_succ]
      refine wpAnyH_take (i := 8) (v := undef) hop4_11_8 (by kernel_rfl) (by kernel_rfl) (by kernel_rfl) (fun _ _ _ h => h) (Or.inr ⟨by rfl, rfl⟩) (by assumption) ?_
      simp only [Act.put, List.setIfInBounds_toArray, List.set_cons_zero, List.set_cons_succ]
      refine wpAnyH_take (i := 9) (v := undef) hop4_11_9 (by kernel_rfl) (by kernel_rfl) (by kernel_rfl) (fun _ _ _ h => h) (Or.inr ⟨by rfl, rfl⟩) (by assumption) ?_
      simp only [Act.put, List.setIfInBounds_toArray, List.set_cons_zero, List.set_cons_succ]
      refine wpAnyH_take (i := 10) (v := ?_) hop4_11_10 (by kernel_rfl) (by kernel_rfl) (by kernel_rfl) (fun _ _ _ h => h) (Or.inl ⟨by rfl, ?hyaff5⟩) (by assumption) ?restaff5
      case hyaff5 => (intro w hSw; (try dsimp only at hSw); go_simp; first | (with_reducible rfl) | (rw [if_neg (by omega)]) | skip)
      simp only [Act.put, List.setIfInBounds_toArray, List.set_cons_zero, List.set_cons_succ]
      refine wpAnyH_take (i := 11) (v := ?_) hop4_11_11 (by kernel_rfl) (by kernel_rfl) (by kernel_rfl) (fun _ _ _ h => h) (Or.inl ⟨by rfl, ?hyaff6⟩) (by assumption) ?restaff6
      case hyaff6 => (intro w hSw; (try dsimp only at hSw); go_simp; first | (with_reducible rfl) | (rw [if_neg (by omega)]) | skip)
      simp only [Act.put, List.setIfInBounds_toArray, List.set_cons_zero, List.set_cons_succ]
      refine wpAnyH_take (i := 12) (v := ?_) hop4_11_12 (by kernel_rfl) (by kernel_rfl) (by kernel_rfl) (fun _ _ _ h => h) (Or.inl ⟨by rfl, ?hyaff7⟩) (by assumption) ?restaff7
      case hyaff7 => (intro w hSw; (try dsimp only at hSw); go_simp; first | (with_reducible rfl) | (rw [if_neg (by omega)]) | skip)
      simp only [Act.put, List.setIfInBounds_toArray, List.set_cons_zero, List.set_cons_succ]
      refine wpAnyH_take (i := 13) (v := ?_) hop4_11_13 (by kernel_rfl) (by kernel_rfl) (by kernel_rfl) (fun _ _ _ h => h) (Or.inl ⟨by rfl, ?hyaff8⟩) (by assumption) ?restaff8
      case hyaff8 => (intro w hSw; (try dsimp only at hSw); go_simp; first | (with_reducible rfl) | (rw [if_neg (by omega)]) | skip)
      simp only [Act.put, List.setIfInBounds_toArray, List.set_cons_zero, List.set_cons_succ]
      refine wpAnyH_take (i := 14) (v := ?_) hop4_11_14 (by kernel_rfl) (by kernel_rfl) (by kernel_rfl) (fun _ _ _ h => h) (Or.inl ⟨by rfl, ?hyaff9⟩) (by assumption) ?restaff9
      case hyaff9 => (intro w hSw; (try dsimp only at hSw); go_simp; first | (with_reducible rfl) | (rw [if_neg (by omega)]) | skip)
      simp only [Act.put, List.setIfInBounds_toArray, List.set_cons_zero, List.set_cons_succ]
      refine wpAnyH_ready (rs := [15]) (by kernel_rfl) (by simp) ?_
      refine AllReadyH.cons hop4_11_15 (fun K hK => ?_) AllReadyH.nil
      go_simp
      go_at_call 28; (with_reducible refine (HR3.out _).mono ?_); rintro e w1 ⟨rfl, hb1⟩
      refine hK.out _ _ ?_ (fun hHeld => ?_)
      · (try dsimp only); exact keepS HC.out (hHeld.1.trans (hb1.mono hHeld.1.size))
      clear hK K
      try simp only [Act.put, List.setIfInBounds_toArray, List.set_cons_zero, List.set_cons_succ]
      refine wpAnyH_take (i := 16) (v := ?_) hop4_11_16 (by kernel_rfl) (by kernel_rfl) (by kernel_rfl) (fun _ _ _ h => h) (Or.inl ⟨by rfl, ?hyaff10⟩) (by assumption) ?restaff10
      case hyaff10 => (intro w hSw; (try dsimp only at hSw); go_simp; first | (with_reducible rfl) | (rw [if_neg (by omega)]) | skip)
      simp only [Act.put, List.setIfInBounds_toArray, List.set_cons_zero, List.set_cons_succ]
      refine wpAnyH_take (i := 17) (v := ?_) hop4_11_17 (by kernel_rfl) (by kernel_rfl) (by kernel_rfl) (fun _ _ _ h => h) (Or.inl ⟨by rfl, ?hyaff11⟩) (by assumption) ?restaff11
      case hyaff11 => (intro w hSw; (try dsimp only at hSw); go_simp; first | (with_reducible rfl) | (rw [if_neg (by omega)]) | skip)
      simp only [Act.put, List.setIfInBounds_toArray, List.set_cons_zero, List.set_cons_succ]
      refine wpAnyH_take (i := 18) (v := undef) hop4_11_18 (by kernel_rfl) (by kernel_rfl) (by kernel_rfl) (fun _ _ _ h => h) (Or.inr ⟨by rfl, rfl⟩) (by assumption) ?_
      simp only [Act.put, List.setIfInBounds_toArray, List.set_cons_zero, List.set_cons_succ]
      refine wpAnyH_take (i := 19) (v := undef) hop4_11_19 (by kernel_rfl) (by kernel_rfl) (by kernel_rfl) (fun _ _ _ h => h) (Or.inr ⟨by rfl, rfl⟩) (by assumption) ?_
      simp only [Act.put, List.setIfInBounds_toArray, List.set_cons_zero, List.set_cons_succ]
      refine wpAnyH_take (i := 20) (v := undef) hop4_11_20 (by kernel_rfl) (by kernel_rfl) (by kernel_rfl) (fun _ _ _ h => h) (Or.inr ⟨by rfl, rfl⟩) (by assumption) ?_
      simp only [Act.put, List.setIfInBounds_toArray, List.set_cons_zero, List.set_cons_succ]
      refine wpAnyH_take (i := 21) (v := undef) hop4_11_21 (by kernel_rfl) (by kernel_rfl) (by kernel_rfl) (fun _ _ _ h => h) (Or.inr ⟨by rfl, rfl⟩) (by assumption) ?_
      simp only [Act.put, List.setIfInBounds_toArray, List.set_cons_zero, List.set_cons_succ]
      refine wpAnyH_take (i := 22) (v := undef) hop4_11_22 (by kernel_rfl) (by kernel_rfl) (by kernel_rfl) (fun _ _ _ h => h) (Or.inr ⟨by rfl, rfl⟩) (by assumption) ?_
      simp only [Act.put, List.setIfInBounds_toArray, List.set_cons_zero, List.set_cons_succ]
      refine wpAnyH_take (i := 23) (v := undef) hop4_11_23 (by kernel_rfl) (by kernel_rfl) (by kernel_rfl) (fun _ _ _ h => h) (Or.inr ⟨by rfl, rfl⟩) (by assumption) ?_
      simp only [Act.put, List.setIfInBounds_toArray, List.set_cons_zero, List.set_cons_succ]
      refine wpAnyH_take (i := 24) (v := undef) hop4_11_24 (by kernel_rfl) (by kernel_rfl) (by kernel_rfl) (fun _ _ _ h => h) (Or.inr ⟨by rfl, rfl⟩) (by assumption) ?_
      simp only [Act.put, List.setIfInBounds_toArray, List.set_cons_zero, List.set_cons_succ]
      refine wpAnyH_take (i := 25) (v := ?_) hop4_11_25 (by kernel_rfl) (by kernel_rfl) (by kernel_rfl) (fun _ _ _ h => h) (Or.inl ⟨by rfl, ?hyaff12⟩) (by assumption) ?restaff12
      case hyaff12 => (intro w hSw; (try dsimp only at hSw); go_simp; first | (with_reducible rfl) | (rw [if_neg (by omega)]) | skip)
      simp only [Act.put, List.setIfInBounds_toArray, List.set_cons_zero, List.set_cons_succ]
      refine wpAnyH_take (i := 26) (v := ?_) hop4_11_26 (by kernel_rfl) (by kernel_rfl) (by kernel_rfl) (fun _ _ _ h => h) (Or.inl ⟨by rfl, ?hyaff13⟩) (by assumption) ?restaff13
      case hyaff13 => (intro w hSw; (try dsimp only at hSw); go_simp; first | (with_reducible rfl) | (rw [if_neg (by omega)]) | skip)
      simp only [Act.put, List.setIfInBounds_toArray, List.set_cons_zero, List.set_cons_succ]
      refine wpAnyH_take (i := 27) (v := ?_) hop4_11_27 (by kernel_rfl) (by kernel_rfl) (by kernel_rfl) (fun _ _ _ h => h) (Or.inl ⟨by rfl, ?hyaff14⟩) (by assumption) ?restaff14
      case hyaff14 => (intro w hSw; (try dsimp only at hSw); go_simp; first | (with_reducible rfl) | (rw [if_neg (by omega)]) | skip)
      simp only [Act.put, List.setIfInBounds_toArray, List.set_cons_zero, List.set_cons_succ]
      refine wpAnyH_ready (rs := [28]) (by kernel_rfl) (by simp) ?_
      refine AllReadyH.cons hop4_11_28 (fun K hK => ?_) AllReadyH.nil
      go_simp
      go_at_call 42; (with_reducible refine (HR6.out _ hHeld.1).mono ?_); rintro e w1 ⟨rfl, hb1⟩
      refine hK.out _ _ ?_ (fun hHeld => ?_)
      · (try dsimp only); exact keepS HC.out (hHeld.1.trans (hb1.mono hHeld.1.size))
      clear hK K
      try simp only [Act.put, List.setIfInBounds_toArray, List.set_cons_zero, List.set_cons_succ]
      refine wpAnyH_take (i := 29) (v := ?_) hop4_11_29 (by kernel_rfl) (by kernel_rfl) (by kernel_rfl) (fun _ _ _ h => h) (Or.inl ⟨by rfl, ?hyaff15⟩) (by assumption) ?restaff15
      case hyaff15 => (intro w hSw; (try dsimp only at hSw); go_simp; first | (with_reducible rfl) | (rw [if_neg (by omega)]) | skip)
      simp only [Act.put, List.setIfInBounds_toArray, List.set_cons_zero, List.set_cons_succ]
      refine wpAnyH_take (i := 30) (v := ?_) hop4_11_30 (by kernel_rfl) (by kernel_rfl) (by kernel_rfl) (fun _ _ _ h => h) (Or.inl ⟨by rfl, ?hyaff16⟩) (by assumption) ?restaff16
      case hyaff16 => (intro w hSw; (try dsimp only at hSw); go_simp; first | (with_reducible rfl) | (rw [if_neg (by omega)]) | skip)
      simp only [Act.put, List.setIfInBounds_toArray, List.set_cons_zero, List.set_cons_succ]
      refine wpAnyH_done (by kernel_rfl) ?_ _
      refine NoPanic.normal ?_
      exact HQ.out _ _ _ _ _ _ _ _ _ _ _ _ _ _ _ _ _ _ _ _ _ _ _ _ _ _ _ _ _ _ _ hHeld.1
end Go.Proofs.YtiohiiekaofkbaaDoor
