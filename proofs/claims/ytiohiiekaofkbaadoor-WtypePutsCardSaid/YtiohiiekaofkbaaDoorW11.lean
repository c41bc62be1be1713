/- The walk of WtypePuts: region 5. -/
import Derived.Test.YtiohiiekaofkbaaDoorW10
namespace Go.Proofs.YtiohiiekaofkbaaDoor
set_option linter.unusedVariables false
set_option linter.unusedSimpArgs false
open Go.RowKit Go.Proofs.YtiohiiekaofkbaaDoor.PWtypePuts Go.Proofs.YtiohiiekaofkbaaDoorW.PrintWords

/- The operations of the regions that draw. -/
def hop4_5_ops : Array Oper := #[{ dst := some 59, op := Go.Op.fieldAddr 53 (Go.Operand.tmp 2) 2, type := 0, pos := "law.go:98", after := #[], guard := none },
    { dst := some 60, op := Go.Op.fieldAddr 47 (Go.Operand.tmp 59) 0, type := 0, pos := "law.go:98", after := #[{ on := 0, ground := Go.Ground.data }], guard := none },
    { dst := some 61, op := Go.Op.load 4 (Go.Operand.tmp 60), type := 4, pos := "law.go:98", after := #[{ on := 1, ground := Go.Ground.data }], guard := none },
    { dst := some 62, op := Go.Op.move (Go.Operand.tmp 61), type := 4, pos := "law.go:98", after := #[{ on := 2, ground := Go.Ground.data }], guard := none },
    { dst := some 63, op := Go.Op.fieldAddr 53 (Go.Operand.tmp 2) 2, type := 0, pos := "law.go:98", after := #[{ on := 3, ground := Go.Ground.guard }], guard := some (3, false) },
    { dst := some 64, op := Go.Op.fieldAddr 47 (Go.Operand.tmp 63) 2, type := 0, pos := "law.go:98", after := #[{ on := 4, ground := Go.Ground.data }, { on := 3, ground := Go.Ground.guard }], guard := some (3, false) },
    { dst := some 65, op := Go.Op.load 45 (Go.Operand.tmp 64), type := 45, pos := "law.go:98", after := #[{ on := 5, ground := Go.Ground.data }, { on := 3, ground := Go.Ground.guard }], guard := some (3, false) },
    { dst := some 66, op := Go.Op.binOp Go.BinOp.eql 45 (Go.Operand.tmp 65) (Go.Operand.const (Go.Value.int Go.IntKind.u32 0)) 45, type := 4, pos := "law.go:98", after := #[{ on := 6, ground := Go.Ground.data }, { on := 3, ground := Go.Ground.guard }], guard := some (3, false) },
    { dst := some 67, op := Go.Op.pick (Go.Operand.tmp 62) (Go.Operand.const (Go.Value.bool true)) (Go.Operand.tmp 66), type := 4, pos := "law.go:98", after := #[{ on := 3, ground := Go.Ground.data }, { on := 7, ground := Go.Ground.data }], guard := none },
    { dst := some 68, op := Go.Op.fieldAddr 53 (Go.Operand.tmp 2) 3, type := 0, pos := "law.go:98", after := #[], guard := none },
    { dst := some 69, op := Go.Op.fieldAddr 49 (Go.Operand.tmp 68) 0, type := 0, pos := "law.go:98", after := #[{ on := 9, ground := Go.Ground.data }], guard := none },
    { dst := some 70, op := Go.Op.load 5 (Go.Operand.tmp 69), type := 5, pos := "law.go:98", after := #[{ on := 10, ground := Go.Ground.data }], guard := none },
    { dst := some 71, op := Go.Op.call { callee := Go.Callee.value (Go.Operand.func 23), args := #[Go.Operand.tmp 70], argTypes := #[5] }, type := 4, pos := "law.go:98", after := #[{ on := 11, ground := Go.Ground.data }, { on := 3, ground := Go.Ground.chain }], guard := none },
    { dst := some 72, op := Go.Op.move (Go.Operand.tmp 71), type := 4, pos := "law.go:98", after := #[{ on := 12, ground := Go.Ground.data }, { on := 12, ground := Go.Ground.chain }], guard := none },
    { dst := some 73, op := Go.Op.fieldAddr 53 (Go.Operand.tmp 2) 3, type := 0, pos := "law.go:98", after := #[{ on := 13, ground := Go.Ground.guard }], guard := some (13, true) },
    { dst := some 74, op := Go.Op.fieldAddr 49 (Go.Operand.tmp 73) 1, type := 0, pos := "law.go:98", after := #[{ on := 14, ground := Go.Ground.data }, { on := 13, ground := Go.Ground.guard }], guard := some (13, true) },
    { dst := some 75, op := Go.Op.fieldAddr 47 (Go.Operand.tmp 74) 0, type := 0, pos := "law.go:98", after := #[{ on := 15, ground := Go.Ground.data }, { on := 13, ground := Go.Ground.guard }], guard := some (13, true) },
    { dst := some 76, op := Go.Op.load 4 (Go.Operand.tmp 75), type := 4, pos := "law.go:98", after := #[{ on := 16, ground := Go.Ground.data }, { on := 13, ground := Go.Ground.guard }], guard := some (13, true) },
    { dst := some 77, op := Go.Op.move (Go.Operand.tmp 76), type := 4, pos := "law.go:98", after := #[{ on := 17, ground := Go.Ground.data }, { on := 13, ground := Go.Ground.chain }, { on := 13, ground := Go.Ground.guard }], guard := some (13, true) },
    { dst := some 78, op := Go.Op.fieldAddr 53 (Go.Operand.tmp 2) 3, type := 0, pos := "law.go:98", after := #[{ on := 18, ground := Go.Ground.guard }, { on := 26, ground := Go.Ground.gcOnly Go.Departure.lateStores }], guard := some (18, false) },
    { dst := some 79, op := Go.Op.fieldAddr 49 (Go.Operand.tmp 78) 1, type := 0, pos := "law.go:98", after := #[{ on := 19, ground := Go.Ground.data }, { on := 18, ground := Go.Ground.guard }, { on := 26, ground := Go.Ground.gcOnly Go.Departure.lateStores }], guard := some (18, false) },
    { dst := some 80, op := Go.Op.fieldAddr 47 (Go.Operand.tmp 79) 2, type := 0, pos := "law.go:98", after := #[{ on := 20, ground := Go.Ground.data }, { on := 18, ground := Go.Ground.guard }, { on := 26, ground := Go.Ground.gcOnly Go.Departure.lateStores }], guard := some (18, false) },
    { dst := some 81, op := Go.Op.load 45 (Go.Operand.tmp 80), type := 45, pos := "law.go:98", after := #[{ on := 21, ground := Go.Ground.data }, { on := 18, ground := Go.Ground.guard }, { on := 26, ground := Go.Ground.gcOnly Go.Departure.lateStores }], guard := some (18, false) },
    { dst := some 82, op := Go.Op.binOp Go.BinOp.eql 45 (Go.Operand.tmp 81) (Go.Operand.const (Go.Value.int Go.IntKind.u32 0)) 45, type := 4, pos := "law.go:98", after := #[{ on := 22, ground := Go.Ground.data }, { on := 18, ground := Go.Ground.guard }, { on := 26, ground := Go.Ground.gcOnly Go.Departure.lateStores }], guard := some (18, false) },
    { dst := some 83, op := Go.Op.pick (Go.Operand.tmp 77) (Go.Operand.const (Go.Value.bool true)) (Go.Operand.tmp 82), type := 4, pos := "law.go:98", after := #[{ on := 18, ground := Go.Ground.data }, { on := 23, ground := Go.Ground.data }, { on := 13, ground := Go.Ground.guard }, { on := 26, ground := Go.Ground.gcOnly Go.Departure.lateStores }], guard := some (13, true) },
    { dst := some 84, op := Go.Op.pick (Go.Operand.tmp 72) (Go.Operand.tmp 83) (Go.Operand.const (Go.Value.bool false)), type := 4, pos := "law.go:98", after := #[{ on := 13, ground := Go.Ground.data }, { on := 24, ground := Go.Ground.data }, { on := 26, ground := Go.Ground.gcOnly Go.Departure.lateStores }], guard := none },
    { dst := some 10, op := Go.Op.assign (Go.Operand.tmp 67), type := 4, pos := "law.go:98", after := #[{ on := 8, ground := Go.Ground.data }, { on := 18, ground := Go.Ground.chain }, { on := 0, ground := Go.Ground.phase }, { on := 1, ground := Go.Ground.phase }, { on := 2, ground := Go.Ground.phase }, { on := 3, ground := Go.Ground.phase }, { on := 4, ground := Go.Ground.phase }, { on := 5, ground := Go.Ground.phase }, { on := 6, ground := Go.Ground.phase }, { on := 7, ground := Go.Ground.phase }, { on := 8, ground := Go.Ground.phase }, { on := 9, ground := Go.Ground.textOnly Go.Departure.lateStores }, { on := 10, ground := Go.Ground.textOnly Go.Departure.lateStores }, { on := 11, ground := Go.Ground.textOnly Go.Departure.lateStores }, { on := 12, ground := Go.Ground.textOnly Go.Departure.lateStoresUnsure }, { on := 13, ground := Go.Ground.textOnly Go.Departure.lateStores }, { on := 14, ground := Go.Ground.textOnly Go.Departure.lateStores }, { on := 15, ground := Go.Ground.textOnly Go.Departure.lateStores }, { on := 16, ground := Go.Ground.textOnly Go.Departure.lateStores }, { on := 17, ground := Go.Ground.textOnly Go.Departure.lateStores }, { on := 18, ground := Go.Ground.textOnly Go.Departure.lateStores }, { on := 19, ground := Go.Ground.textOnly Go.Departure.lateStores }, { on := 20, ground := Go.Ground.textOnly Go.Departure.lateStores }, { on := 21, ground := Go.Ground.textOnly Go.Departure.lateStores }, { on := 22, ground := Go.Ground.textOnly Go.Departure.lateStores }, { on := 23, ground := Go.Ground.textOnly Go.Departure.lateStores }, { on := 24, ground := Go.Ground.textOnly Go.Departure.lateStores }, { on := 25, ground := Go.Ground.textOnly Go.Departure.lateStores }], guard := none },
    { dst := some 11, op := Go.Op.assign (Go.Operand.tmp 84), type := 4, pos := "law.go:98", after := #[{ on := 25, ground := Go.Ground.data }, { on := 26, ground := Go.Ground.chain }, { on := 0, ground := Go.Ground.phase }, { on := 1, ground := Go.Ground.phase }, { on := 2, ground := Go.Ground.phase }, { on := 3, ground := Go.Ground.phase }, { on := 4, ground := Go.Ground.phase }, { on := 5, ground := Go.Ground.phase }, { on := 6, ground := Go.Ground.phase }, { on := 7, ground := Go.Ground.phase }, { on := 8, ground := Go.Ground.phase }, { on := 9, ground := Go.Ground.phase }, { on := 10, ground := Go.Ground.phase }, { on := 11, ground := Go.Ground.phase }, { on := 12, ground := Go.Ground.phase }, { on := 13, ground := Go.Ground.phase }, { on := 14, ground := Go.Ground.phase }, { on := 15, ground := Go.Ground.phase }, { on := 16, ground := Go.Ground.phase }, { on := 17, ground := Go.Ground.phase }, { on := 18, ground := Go.Ground.phase }, { on := 19, ground := Go.Ground.phase }, { on := 20, ground := Go.Ground.phase }, { on := 21, ground := Go.Ground.phase }, { on := 22, ground := Go.Ground.phase }, { on := 23, ground := Go.Ground.phase }, { on := 24, ground := Go.Ground.phase }, { on := 25, ground := Go.Ground.phase }, { on := 26, ground := Go.Ground.phase }], guard := none }]
theorem hop4_5_0 : hop4_5_ops[0]? = some { dst := some 59, op := Go.Op.fieldAddr 53 (Go.Operand.tmp 2) 2, type := 0, pos := "law.go:98", after := #[], guard := none } := rfl
theorem hop4_5_1 : hop4_5_ops[1]? = some { dst := some 60, op := Go.Op.fieldAddr 47 (Go.Operand.tmp 59) 0, type := 0, pos := "law.go:98", after := #[{ on := 0, ground := Go.Ground.data }], guard := none } := rfl
theorem hop4_5_2 : hop4_5_ops[2]? = some { dst := some 61, op := Go.Op.load 4 (Go.Operand.tmp 60), type := 4, pos := "law.go:98", after := #[{ on := 1, ground := Go.Ground.data }], guard := none } := rfl
theorem hop4_5_3 : hop4_5_ops[3]? = some { dst := some 62, op := Go.Op.move (Go.Operand.tmp 61), type := 4, pos := "law.go:98", after := #[{ on := 2, ground := Go.Ground.data }], guard := none } := rfl
theorem hop4_5_4 : hop4_5_ops[4]? = some { dst := some 63, op := Go.Op.fieldAddr 53 (Go.Operand.tmp 2) 2, type := 0, pos := "law.go:98", after := #[{ on := 3, ground := Go.Ground.guard }], guard := some (3, false) } := rfl
theorem hop4_5_5 : hop4_5_ops[5]? = some { dst := some 64, op := Go.Op.fieldAddr 47 (Go.Operand.tmp 63) 2, type := 0, pos := "law.go:98", after := #[{ on := 4, ground := Go.Ground.data }, { on := 3, ground := Go.Ground.guard }], guard := some (3, false) } := rfl
theorem hop4_5_6 : hop4_5_ops[6]? = some { dst := some 65, op := Go.Op.load 45 (Go.Operand.tmp 64), type := 45, pos := "law.go:98", after := #[{ on := 5, ground := Go.Ground.data }, { on := 3, ground := Go.Ground.guard }], guard := some (3, false) } := rfl
theorem hop4_5_7 : hop4_5_ops[7]? = some { dst := some 66, op := Go.Op.binOp Go.BinOp.eql 45 (Go.Operand.tmp 65) (Go.Operand.const (Go.Value.int Go.IntKind.u32 0)) 45, type := 4, pos := "law.go:98", after := #[{ on := 6, ground := Go.Ground.data }, { on := 3, ground := Go.Ground.guard }], guard := some (3, false) } := rfl
theorem hop4_5_8 : hop4_5_ops[8]? = some { dst := some 67, op := Go.Op.pick (Go.Operand.tmp 62) (Go.Operand.const (Go.Value.bool true)) (Go.Operand.tmp 66), type := 4, pos := "law.go:98", after := #[{ on := 3, ground := Go.Ground.data }, { on := 7, ground := Go.Ground.data }], guard := none } := rfl
theorem hop4_5_9 : hop4_5_ops[9]? = some { dst := some 68, op := Go.Op.fieldAddr 53 (Go.Operand.tmp 2) 3, type := 0, pos := "law.go:98", after := #[], guard := none } := rfl
theorem hop4_5_10 : hop4_5_ops[10]? = some { dst := some 69, op := Go.Op.fieldAddr 49 (Go.Operand.tmp 68) 0, type := 0, pos := "law.go:98", after := #[{ on := 9, ground := Go.Ground.data }], guard := none } := rfl
theorem hop4_5_11 : hop4_5_ops[11]? = some { dst := some 70, op := Go.Op.load 5 (Go.Operand.tmp 69), type := 5, pos := "law.go:98", after := #[{ on := 10, ground := Go.Ground.data }], guard := none } := rfl
theorem hop4_5_12 : hop4_5_ops[12]? = some { dst := some 71, op := Go.Op.call { callee := Go.Callee.value (Go.Operand.func 23), args := #[Go.Operand.tmp 70], argTypes := #[5] }, type := 4, pos := "law.go:98", after := #[{ on := 11, ground := Go.Ground.data }, { on := 3, ground := Go.Ground.chain }], guard := none } := rfl
theorem hop4_5_13 : hop4_5_ops[13]? = some { dst := some 72, op := Go.Op.move (Go.Operand.tmp 71), type := 4, pos := "law.go:98", after := #[{ on := 12, ground := Go.Ground.data }, { on := 12, ground := Go.Ground.chain }], guard := none } := rfl
theorem hop4_5_14 : hop4_5_ops[14]? = some { dst := some 73, op := Go.Op.fieldAddr 53 (Go.Operand.tmp 2) 3, type := 0, pos := "law.go:98", after := #[{ on := 13, ground := Go.Ground.guard }], guard := some (13, true) } := rfl
theorem hop4_5_15 : hop4_5_ops[15]? = some { dst := some 74, op := Go.Op.fieldAddr 49 (Go.Operand.tmp 73) 1, type := 0, pos := "law.go:98", after := #[{ on := 14, ground := Go.Ground.data }, { on := 13, ground := Go.Ground.guard }], guard := some (13, true) } := rfl
theorem hop4_5_16 : hop4_5_ops[16]? = some { dst := some 75, op := Go.Op.fieldAddr 47 (Go.Operand.tmp 74) 0, type := 0, pos := "law.go:98", after := #[{ on := 15, ground := Go.Ground.data }, { on := 13, ground := Go.Ground.guard }], guard := some (13, true) } := rfl
theorem hop4_5_17 : hop4_5_ops[17]? = some { dst := some 76, op := Go.Op.load 4 (Go.Operand.tmp 75), type := 4, pos := "law.go:98", after := #[{ on := 16, ground := Go.Ground.data }, { on := 13, ground := Go.Ground.guard }], guard := some (13, true) } := rfl
theorem hop4_5_18 : hop4_5_ops[18]? = some { dst := some 77, op := Go.Op.move (Go.Operand.tmp 76), type := 4, pos := "law.go:98", after := #[{ on := 17, ground := Go.Ground.data }, { on := 13, ground := Go.Ground.chain }, { on := 13, ground := Go.Ground.guard }], guard := some (13, true) } := rfl
theorem hop4_5_19 : hop4_5_ops[19]? = some { dst := some 78, op := Go.Op.fieldAddr 53 (Go.Operand.tmp 2) 3, type := 0, pos := "law.go:98", after := #[{ on := 18, ground := Go.Ground.guard }, { on := 26, ground := Go.Ground.gcOnly Go.Departure.lateStores }], guard := some (18, false) } := rfl
theorem hop4_5_20 : hop4_5_ops[20]? = some { dst := some 79, op := Go.Op.fieldAddr 49 (Go.Operand.tmp 78) 1, type := 0, pos := "law.go:98", after := #[{ on := 19, ground := Go.Ground.data }, { on := 18, ground := Go.Ground.guard }, { on := 26, ground := Go.Ground.gcOnly Go.Departure.lateStores }], guard := some (18, false) } := rfl
theorem hop4_5_21 : hop4_5_ops[21]? = some { dst := some 80, op := Go.Op.fieldAddr 47 (Go.Operand.tmp 79) 2, type := 0, pos := "law.go:98", after := #[{ on := 20, ground := Go.Ground.data }, { on := 18, ground := Go.Ground.guard }, { on := 26, ground := Go.Ground.gcOnly Go.Departure.lateStores }], guard := some (18, false) } := rfl
theorem hop4_5_22 : hop4_5_ops[22]? = some { dst := some 81, op := Go.Op.load 45 (Go.Operand.tmp 80), type := 45, pos := "law.go:98", after := #[{ on := 21, ground := Go.Ground.data }, { on := 18, ground := Go.Ground.guard }, { on := 26, ground := Go.Ground.gcOnly Go.Departure.lateStores }], guard := some (18, false) } := rfl
theorem hop4_5_23 : hop4_5_ops[23]? = some { dst := some 82, op := Go.Op.binOp Go.BinOp.eql 45 (Go.Operand.tmp 81) (Go.Operand.const (Go.Value.int Go.IntKind.u32 0)) 45, type := 4, pos := "law.go:98", after := #[{ on := 22, ground := Go.Ground.data }, { on := 18, ground := Go.Ground.guard }, { on := 26, ground := Go.Ground.gcOnly Go.Departure.lateStores }], guard := some (18, false) } := rfl
theorem hop4_5_24 : hop4_5_ops[24]? = some { dst := some 83, op := Go.Op.pick (Go.Operand.tmp 77) (Go.Operand.const (Go.Value.bool true)) (Go.Operand.tmp 82), type := 4, pos := "law.go:98", after := #[{ on := 18, ground := Go.Ground.data }, { on := 23, ground := Go.Ground.data }, { on := 13, ground := Go.Ground.guard }, { on := 26, ground := Go.Ground.gcOnly Go.Departure.lateStores }], guard := some (13, true) } := rfl
theorem hop4_5_25 : hop4_5_ops[25]? = some { dst := some 84, op := Go.Op.pick (Go.Operand.tmp 72) (Go.Operand.tmp 83) (Go.Operand.const (Go.Value.bool false)), type := 4, pos := "law.go:98", after := #[{ on := 13, ground := Go.Ground.data }, { on := 24, ground := Go.Ground.data }, { on := 26, ground := Go.Ground.gcOnly Go.Departure.lateStores }], guard := none } := rfl
theorem hop4_5_26 : hop4_5_ops[26]? = some { dst := some 10, op := Go.Op.assign (Go.Operand.tmp 67), type := 4, pos := "law.go:98", after := #[{ on := 8, ground := Go.Ground.data }, { on := 18, ground := Go.Ground.chain }, { on := 0, ground := Go.Ground.phase }, { on := 1, ground := Go.Ground.phase }, { on := 2, ground := Go.Ground.phase }, { on := 3, ground := Go.Ground.phase }, { on := 4, ground := Go.Ground.phase }, { on := 5, ground := Go.Ground.phase }, { on := 6, ground := Go.Ground.phase }, { on := 7, ground := Go.Ground.phase }, { on := 8, ground := Go.Ground.phase }, { on := 9, ground := Go.Ground.textOnly Go.Departure.lateStores }, { on := 10, ground := Go.Ground.textOnly Go.Departure.lateStores }, { on := 11, ground := Go.Ground.textOnly Go.Departure.lateStores }, { on := 12, ground := Go.Ground.textOnly Go.Departure.lateStoresUnsure }, { on := 13, ground := Go.Ground.textOnly Go.Departure.lateStores }, { on := 14, ground := Go.Ground.textOnly Go.Departure.lateStores }, { on := 15, ground := Go.Ground.textOnly Go.Departure.lateStores }, { on := 16, ground := Go.Ground.textOnly Go.Departure.lateStores }, { on := 17, ground := Go.Ground.textOnly Go.Departure.lateStores }, { on := 18, ground := Go.Ground.textOnly Go.Departure.lateStores }, { on := 19, ground := Go.Ground.textOnly Go.Departure.lateStores }, { on := 20, ground := Go.Ground.textOnly Go.Departure.lateStores }, { on := 21, ground := Go.Ground.textOnly Go.Departure.lateStores }, { on := 22, ground := Go.Ground.textOnly Go.Departure.lateStores }, { on := 23, ground := Go.Ground.textOnly Go.Departure.lateStores }, { on := 24, ground := Go.Ground.textOnly Go.Departure.lateStores }, { on := 25, ground := Go.Ground.textOnly Go.Departure.lateStores }], guard := none } := rfl
theorem hop4_5_27 : hop4_5_ops[27]? = some { dst := some 11, op := Go.Op.assign (Go.Operand.tmp 84), type := 4, pos := "law.go:98", after := #[{ on := 25, ground := Go.Ground.data }, { on := 26, ground := Go.Ground.chain }, { on := 0, ground := Go.Ground.phase }, { on := 1, ground := Go.Ground.phase }, { on := 2, ground := Go.Ground.phase }, { on := 3, ground := Go.Ground.phase }, { on := 4, ground := Go.Ground.phase }, { on := 5, ground := Go.Ground.phase }, { on := 6, ground := Go.Ground.phase }, { on := 7, ground := Go.Ground.phase }, { on := 8, ground := Go.Ground.phase }, { on := 9, ground := Go.Ground.phase }, { on := 10, ground := Go.Ground.phase }, { on := 11, ground := Go.Ground.phase }, { on := 12, ground := Go.Ground.phase }, { on := 13, ground := Go.Ground.phase }, { on := 14, ground := Go.Ground.phase }, { on := 15, ground := Go.Ground.phase }, { on := 16, ground := Go.Ground.phase }, { on := 17, ground := Go.Ground.phase }, { on := 18, ground := Go.Ground.phase }, { on := 19, ground := Go.Ground.phase }, { on := 20, ground := Go.Ground.phase }, { on := 21, ground := Go.Ground.phase }, { on := 22, ground := Go.Ground.phase }, { on := 23, ground := Go.Ground.phase }, { on := 24, ground := Go.Ground.phase }, { on := 25, ground := Go.Ground.phase }, { on := 26, ground := Go.Ground.phase }], guard := none } := rfl

set_option maxRecDepth 100000 in
set_option maxHeartbeats 16000000 in
theorem reg5 (Q : Exit → Act → World → Prop) (X Y g5 g6 g7 g8 : Nat) (vv : Int) (p r s u : ByteArray) (lm : Bool) (la lb tv : Int) (tm : Bool) (ta tb gv : Int) (gm : Bool) (A0 A1 : Option Addr) (c0 c1 : Nat) (wb w : World) (bl bt : Bool) {t0 t1 t4 t9 t10 t11 t12 t13 t14 t15 t16 t17 t18 t19 t20 t21 t22 t23 t24 t25 t26 t27 t28 t29 t30 t31 t32 t33 t34 t35 t36 t37 t38 t39 t40 t41 t42 t43 t44 t45 t46 t47 t48 t49 t50 t51 t52 t53 t54 t55 t56 t57 t58 t59 t60 t61 t62 t63 t64 t65 t66 t67 t68 t69 t70 t71 t72 t73 t74 t75 t76 t77 t78 t79 t80 t81 t82 t83 t84 t85 t86 t87 t88 t89 t90 t91 t92 t93 t94 t95 t96 t97 t98 t99 t100 t101 t102 t103 t104 t105 t106 t107 t108 t109 t110 t111 t112 t113 t114 t115 t116 t117 t118 t119 t120 t121 t122 t123 t124 t125 t126 t127 t128 t129 t130 t131 t132 t133 t134 t135 t136 t137 t138 t139 t140 t141 t142 t143 t144 t145 t146 t147 t148 t149 t150 t151 t152 t153 t154 t155 t156 t157 t158 t159 t160 t161 t162 t163 t164 t165 t166 t167 t168 t169 t170 t171 t172 t173 t174 t175 t176 t177 t178 t179 t180 t181 t182 t183 t184 t185 t186 t187 t188 t189 t190 t191 t192 t193 t194 t195 t196 t197 t198 t199 t200 t201 t202 t203 t204 : Value} (hC : wb.cell? ⟨X, 0, none⟩ = some (.int .u8 vv) ∧ wb.cell? ⟨X, 1, none⟩ = some (.string p) ∧ wb.cell? ⟨X, 2, none⟩ = some (.string r) ∧ wb.cell? ⟨X, 3, none⟩ = some (.bool lm) ∧ wb.cell? ⟨X, 4, none⟩ = some (.int .u32 la) ∧ wb.cell? ⟨X, 5, none⟩ = some (.int .u32 lb) ∧ wb.cell? ⟨X, 6, none⟩ = some (.int .u8 tv) ∧ wb.cell? ⟨X, 7, none⟩ = some (.bool tm) ∧ wb.cell? ⟨X, 8, none⟩ = some (.int .u32 ta) ∧ wb.cell? ⟨X, 9, none⟩ = some (.int .u32 tb) ∧ wb.cell? ⟨X, 10, none⟩ = some (.int .u8 gv) ∧ wb.cell? ⟨X, 11, none⟩ = some (.bool gm) ∧ wb.cell? ⟨Y, 0, none⟩ = some (.string s) ∧ wb.cell? ⟨Y, 1, none⟩ = some (.string u) ∧ wb.cell? ⟨g5, 0, none⟩ = some (.slice A0 (bytesOf p).length c0) ∧ wb.cell? ⟨g5, 1, none⟩ = some (.slice A1 (bytesOf r).length c1) ∧ wb.cell? ⟨g6, 0, none⟩ = some (.bool lm) ∧ wb.cell? ⟨g6, 1, none⟩ = some (.int .u32 la) ∧ wb.cell? ⟨g6, 2, none⟩ = some (.int .u32 lb) ∧ wb.cell? ⟨g7, 0, none⟩ = some (.int .u8 tv) ∧ wb.cell? ⟨g7, 1, none⟩ = some (.bool tm) ∧ wb.cell? ⟨g7, 2, none⟩ = some (.int .u32 ta) ∧ wb.cell? ⟨g7, 3, none⟩ = some (.int .u32 tb) ∧ wb.cell? ⟨g8, 0, none⟩ = some (.int .u8 gv) ∧ wb.cell? ⟨g8, 1, none⟩ = some (.bool gm)) (hB : Below wb.heap.size wb w) (hbt : (refV tv && (tm || tb == 0)) = bt)
    (hbl : (lm || lb == 0) = bl)
    (hq : ∀ (s59 s60 s61 s62 s63 s64 s65 s66 s67 s68 s69 s70 s71 s72 s73 s74 s75 s76 s77 s78 s79 s80 s81 s82 s83 s84 : Value) (W : World), Below wb.heap.size wb W → Q .normal ({ tmps := #[t0, t1, .pointer (some ⟨X, 0, none⟩), .pointer (some ⟨Y, 0, none⟩), t4, .pointer (some ⟨g5, 0, none⟩), .pointer (some ⟨g6, 0, none⟩), .pointer (some ⟨g7, 0, none⟩), .pointer (some ⟨g8, 0, none⟩), t9, .bool bl, .bool bt, t12, t13, t14, t15, t16, t17, t18, t19, t20, t21, t22, t23, t24, t25, t26, t27, t28, t29, t30, t31, t32, t33, t34, t35, t36, t37, t38, t39, t40, t41, t42, t43, t44, t45, t46, t47, t48, t49, t50, t51, t52, t53, t54, t55, t56, t57, t58, s59, s60, s61, s62, s63, s64, s65, s66, s67, s68, s69, s70, s71, s72, s73, s74, s75, s76, s77, s78, s79, s80, s81, s82, s83, s84, t85, t86, t87, t88, t89, t90, t91, t92, t93, t94, t95, t96, t97, t98, t99, t100, t101, t102, t103, t104, t105, t106, t107, t108, t109, t110, t111, t112, t113, t114, t115, t116, t117, t118, t119, t120, t121, t122, t123, t124, t125, t126, t127, t128, t129, t130, t131, t132, t133, t134, t135, t136, t137, t138, t139, t140, t141, t142, t143, t144, t145, t146, t147, t148, t149, t150, t151, t152, t153, t154, t155, t156, t157, t158, t159, t160, t161, t162, t163, t164, t165, t166, t167, t168, t169, t170, t171, t172, t173, t174, t175, t176, t177, t178, t179, t180, t181, t182, t183, t184, t185, t186, t187, t188, t189, t190, t191, t192, t193, t194, t195, t196, t197, t198, t199, t200, t201, t202, t203, t204], defers := [] } : Act) W) :
    (Code.region 5 #[{ dst := some 59, op := Go.Op.fieldAddr 53 (Go.Operand.tmp 2) 2, type := 0, pos := "law.go:98", after := #[], guard := none },
    { dst := some 60, op := Go.Op.fieldAddr 47 (Go.Operand.tmp 59) 0, type := 0, pos := "law.go:98", after := #[{ on := 0, ground := Go.Ground.data }], guard := none },
    { dst := some 61, op := Go.Op.load 4 (Go.Operand.tmp 60), type := 4, pos := "law.go:98", after := #[{ on := 1, ground := Go.Ground.data }], guard := none },
    { dst := some 62, op := Go.Op.move (Go.Operand.tmp 61), type := 4, pos := "law.go:98", after := #[{ on := 2, ground := Go.Ground.data }], guard := none },
    { dst := some 63, op := Go.Op.fieldAddr 53 (Go.Operand.tmp 2) 2, type := 0, pos := "law.go:98", after := #[{ on := 3, ground := Go.Ground.guard }], guard := some (3, false) },
    { dst := some 64, op := Go.Op.fieldAddr 47 (Go.Operand.tmp 63) 2, type := 0, pos := "law.go:98", after := #[{ on := 4, ground := Go.Ground.data }, { on := 3, ground := Go.Ground.guard }], guard := some (3, false) },
    { dst := some 65, op := Go.Op.load 45 (Go.Operand.tmp 64), type := 45, pos := "law.go:98", after := #[{ on := 5, ground := Go.Ground.data }, { on := 3, ground := Go.Ground.guard }], guard := some (3, false) },
    { dst := some 66, op := Go.Op.binOp Go.BinOp.eql 45 (Go.Operand.tmp 65) (Go.Operand.const (Go.Value.int Go.IntKind.u32 0)) 45, type := 4, pos := "law.go:98", after := #[{ on := 6, ground := Go.Ground.data }, { on := 3, ground := Go.Ground.guard }], guard := some (3, false) },
    { dst := some 67, op := Go.Op.pick (Go.Operand.tmp 62) (Go.Operand.const (Go.Value.bool true)) (Go.Operand.tmp 66), type := 4, pos := "law.go:98", after := #[{ on := 3, ground := Go.Ground.data }, { on := 7, ground := Go.Ground.data }], guard := none },
    { dst := some 68, op := Go.Op.fieldAddr 53 (Go.Operand.tmp 2) 3, type := 0, pos := "law.go:98", after := #[], guard := none },
    { dst := some 69, op := Go.Op.fieldAddr 49 (Go.Operand.tmp 68) 0, type := 0, pos := "law.go:98", after := #[{ on := 9, ground := Go.Ground.data }], guard := none },
    { dst := some 70, op := Go.Op.load 5 (Go.Operand.tmp 69), type := 5, pos := "law.go:98", after := #[{ on := 10, ground := Go.Ground.data }], guard := none },
    { dst := some 71, op := Go.Op.call { callee := Go.Callee.value (Go.Operand.func 23), args := #[Go.Operand.tmp 70], argTypes := #[5] }, type := 4, pos := "law.go:98", after := #[{ on := 11, ground := Go.Ground.data }, { on := 3, ground := Go.Ground.chain }], guard := none },
    { dst := some 72, op := Go.Op.move (Go.Operand.tmp 71), type := 4, pos := "law.go:98", after := #[{ on := 12, ground := Go.Ground.data }, { on := 12, ground := Go.Ground.chain }], guard := none },
    { dst := some 73, op := Go.Op.fieldAddr 53 (Go.Operand.tmp 2) 3, type := 0, pos := "law.go:98", after := #[{ on := 13, ground := Go.Ground.guard }], guard := some (13, true) },
    { dst := some 74, op := Go.Op.fieldAddr 49 (Go.Operand.tmp 73) 1, type := 0, pos := "law.go:98", after := #[{ on := 14, ground := Go.Ground.data }, { on := 13, ground := Go.Ground.guard }], guard := some (13, true) },
    { dst := some 75, op := Go.Op.fieldAddr 47 (Go.Operand.tmp 74) 0, type := 0, pos := "law.go:98", after := #[{ on := 15, ground := Go.Ground.data }, { on := 13, ground := Go.Ground.guard }], guard := some (13, true) },
    { dst := some 76, op := Go.Op.load 4 (Go.Operand.tmp 75), type := 4, pos := "law.go:98", after := #[{ on := 16, ground := Go.Ground.data }, { on := 13, ground := Go.Ground.guard }], guard := some (13, true) },
    { dst := some 77, op := Go.Op.move (Go.Operand.tmp 76), type := 4, pos := "law.go:98", after := #[{ on := 17, ground := Go.Ground.data }, { on := 13, ground := Go.Ground.chain }, { on := 13, ground := Go.Ground.guard }], guard := some (13, true) },
    { dst := some 78, op := Go.Op.fieldAddr 53 (Go.Operand.tmp 2) 3, type := 0, pos := "law.go:98", after := #[{ on := 18, ground := Go.Ground.guard }, { on := 26, ground := Go.Ground.gcOnly Go.Departure.lateStores }], guard := some (18, false) },
    { dst := some 79, op := Go.Op.fieldAddr 49 (Go.Operand.tmp 78) 1, type := 0, pos := "law.go:98", after := #[{ on := 19, ground := Go.Ground.data }, { on := 18, ground := Go.Ground.guard }, { on := 26, ground := Go.Ground.gcOnly Go.Departure.lateStores }], guard := some (18, false) },
    { dst := some 80, op := Go.Op.fieldAddr 47 (Go.Operand.tmp 79) 2, type := 0, pos := "law.go:98", after := #[{ on := 20, ground := Go.Ground.data }, { on := 18, ground := Go.Ground.guard }, { on := 26, ground := Go.Ground.gcOnly Go.Departure.lateStores }], guard := some (18, false) },
    { dst := some 81, op := Go.Op.load 45 (Go.Operand.tmp 80), type := 45, pos := "law.go:98", after := #[{ on := 21, ground := Go.Ground.data }, { on := 18, ground := Go.Ground.guard }, { on := 26, ground := Go.Ground.gcOnly Go.Departure.lateStores }], guard := some (18, false) },
    { dst := some 82, op := Go.Op.binOp Go.BinOp.eql 45 (Go.Operand.tmp 81) (Go.Operand.const (Go.Value.int Go.IntKind.u32 0)) 45, type := 4, pos := "law.go:98", after := #[{ on := 22, ground := Go.Ground.data }, { on := 18, ground := Go.Ground.guard }, { on := 26, ground := Go.Ground.gcOnly Go.Departure.lateStores }], guard := some (18, false) },
    { dst := some 83, op := Go.Op.pick (Go.Operand.tmp 77) (Go.Operand.const (Go.Value.bool true)) (Go.Operand.tmp 82), type := 4, pos := "law.go:98", after := #[{ on := 18, ground := Go.Ground.data }, { on := 23, ground := Go.Ground.data }, { on := 13, ground := Go.Ground.guard }, { on := 26, ground := Go.Ground.gcOnly Go.Departure.lateStores }], guard := some (13, true) },
    { dst := some 84, op := Go.Op.pick (Go.Operand.tmp 72) (Go.Operand.tmp 83) (Go.Operand.const (Go.Value.bool false)), type := 4, pos := "law.go:98", after := #[{ on := 13, ground := Go.Ground.data }, { on := 24, ground := Go.Ground.data }, { on := 26, ground := Go.Ground.gcOnly Go.Departure.lateStores }], guard := none },
    { dst := some 10, op := Go.Op.assign (Go.Operand.tmp 67), type := 4, pos := "law.go:98", after := #[{ on := 8, ground := Go.Ground.data }, { on := 18, ground := Go.Ground.chain }, { on := 0, ground := Go.Ground.phase }, { on := 1, ground := Go.Ground.phase }, { on := 2, ground := Go.Ground.phase }, { on := 3, ground := Go.Ground.phase }, { on := 4, ground := Go.Ground.phase }, { on := 5, ground := Go.Ground.phase }, { on := 6, ground := Go.Ground.phase }, { on := 7, ground := Go.Ground.phase }, { on := 8, ground := Go.Ground.phase }, { on := 9, ground := Go.Ground.textOnly Go.Departure.lateStores }, { on := 10, ground := Go.Ground.textOnly Go.Departure.lateStores }, { on := 11, ground := Go.Ground.textOnly Go.Departure.lateStores }, { on := 12, ground := Go.Ground.textOnly Go.Departure.lateStoresUnsure }, { on := 13, ground := Go.Ground.textOnly Go.Departure.lateStores }, { on := 14, ground := Go.Ground.textOnly Go.Departure.lateStores }, { on := 15, ground := Go.Ground.textOnly Go.Departure.lateStores }, { on := 16, ground := Go.Ground.textOnly Go.Departure.lateStores }, { on := 17, ground := Go.Ground.textOnly Go.Departure.lateStores }, { on := 18, ground := Go.Ground.textOnly Go.Departure.lateStores }, { on := 19, ground := Go.Ground.textOnly Go.Departure.lateStores }, { on := 20, ground := Go.Ground.textOnly Go.Departure.lateStores }, { on := 21, ground := Go.Ground.textOnly Go.Departure.lateStores }, { on := 22, ground := Go.Ground.textOnly Go.Departure.lateStores }, { on := 23, ground := Go.Ground.textOnly Go.Departure.lateStores }, { on := 24, ground := Go.Ground.textOnly Go.Departure.lateStores }, { on := 25, ground := Go.Ground.textOnly Go.Departure.lateStores }], guard := none },
    { dst := some 11, op := Go.Op.assign (Go.Operand.tmp 84), type := 4, pos := "law.go:98", after := #[{ on := 25, ground := Go.Ground.data }, { on := 26, ground := Go.Ground.chain }, { on := 0, ground := Go.Ground.phase }, { on := 1, ground := Go.Ground.phase }, { on := 2, ground := Go.Ground.phase }, { on := 3, ground := Go.Ground.phase }, { on := 4, ground := Go.Ground.phase }, { on := 5, ground := Go.Ground.phase }, { on := 6, ground := Go.Ground.phase }, { on := 7, ground := Go.Ground.phase }, { on := 8, ground := Go.Ground.phase }, { on := 9, ground := Go.Ground.phase }, { on := 10, ground := Go.Ground.phase }, { on := 11, ground := Go.Ground.phase }, { on := 12, ground := Go.Ground.phase }, { on := 13, ground := Go.Ground.phase }, { on := 14, ground := Go.Ground.phase }, { on := 15, ground := Go.Ground.phase }, { on := 16, ground := Go.Ground.phase }, { on := 17, ground := Go.Ground.phase }, { on := 18, ground := Go.Ground.phase }, { on := 19, ground := Go.Ground.phase }, { on := 20, ground := Go.Ground.phase }, { on := 21, ground := Go.Ground.phase }, { on := 22, ground := Go.Ground.phase }, { on := 23, ground := Go.Ground.phase }, { on := 24, ground := Go.Ground.phase }, { on := 25, ground := Go.Ground.phase }, { on := 26, ground := Go.Ground.phase }], guard := none }] true).wp Tryd.prog Q ({ tmps := #[t0, t1, .pointer (some ⟨X, 0, none⟩), .pointer (some ⟨Y, 0, none⟩), t4, .pointer (some ⟨g5, 0, none⟩), .pointer (some ⟨g6, 0, none⟩), .pointer (some ⟨g7, 0, none⟩), .pointer (some ⟨g8, 0, none⟩), t9, t10, t11, t12, t13, t14, t15, t16, t17, t18, t19, t20, t21, t22, t23, t24, t25, t26, t27, t28, t29, t30, t31, t32, t33, t34, t35, t36, t37, t38, t39, t40, t41, t42, t43, t44, t45, t46, t47, t48, t49, t50, t51, t52, t53, t54, t55, t56, t57, t58, t59, t60, t61, t62, t63, t64, t65, t66, t67, t68, t69, t70, t71, t72, t73, t74, t75, t76, t77, t78, t79, t80, t81, t82, t83, t84, t85, t86, t87, t88, t89, t90, t91, t92, t93, t94, t95, t96, t97, t98, t99, t100, t101, t102, t103, t104, t105, t106, t107, t108, t109, t110, t111, t112, t113, t114, t115, t116, t117, t118, t119, t120, t121, t122, t123, t124, t125, t126, t127, t128, t129, t130, t131, t132, t133, t134, t135, t136, t137, t138, t139, t140, t141, t142, t143, t144, t145, t146, t147, t148, t149, t150, t151, t152, t153, t154, t155, t156, t157, t158, t159, t160, t161, t162, t163, t164, t165, t166, t167, t168, t169, t170, t171, t172, t173, t174, t175, t176, t177, t178, t179, t180, t181, t182, t183, t184, t185, t186, t187, t188, t189, t190, t191, t192, t193, t194, t195, t196, t197, t198, t199, t200, t201, t202, t203, t204], defers := [] } : Act) w := by
  obtain ⟨b, hb⟩ : ∃ b, refV tv = b := ⟨_, rfl⟩
  rw [hb] at hbt
  have HC := hid hC
  have HB := hid hB
  have HQ := hid hq
  have HRF := hid (fun W => rref_walk tv W)
  rw [hb] at HRF
  have HBT := hid hbt
  have HBL := hid hbl
  clear hC hB hq hb hbt hbl
  have hu0 := Tryd.underlying53
  have hu1 := Tryd.underlying56
  have hu2 := Tryd.underlying58
  have hu3 := Tryd.underlying62
  have hu4 := Tryd.underlying65
  have hu5 := Tryd.underlying44
  cases lm with
  | true =>
    cases b with
    | false =>
      have e1 : bl = true := by rw [← HBL.out]; simp
      have e2 : bt = false := by rw [← HBT.out]; simp
      subst e1 e2
      refine wp_region_noPanic ?_
      refine wp_region_held_drew (S := (fun W => Below wb.heap.size wb W ∧ W.cell? ⟨X, 0, none⟩ = some (.int .u8 vv) ∧ W.cell? ⟨X, 1, none⟩ = some (.string p) ∧ W.cell? ⟨X, 2, none⟩ = some (.string r) ∧ W.cell? ⟨X, 3, none⟩ = some (.bool true) ∧ W.cell? ⟨X, 4, none⟩ = some (.int .u32 la) ∧ W.cell? ⟨X, 5, none⟩ = some (.int .u32 lb) ∧ W.cell? ⟨X, 6, none⟩ = some (.int .u8 tv) ∧ W.cell? ⟨X, 7, none⟩ = some (.bool tm) ∧ W.cell? ⟨X, 8, none⟩ = some (.int .u32 ta) ∧ W.cell? ⟨X, 9, none⟩ = some (.int .u32 tb) ∧ W.cell? ⟨X, 10, none⟩ = some (.int .u8 gv) ∧ W.cell? ⟨X, 11, none⟩ = some (.bool gm) ∧ W.cell? ⟨Y, 0, none⟩ = some (.string s) ∧ W.cell? ⟨Y, 1, none⟩ = some (.string u) ∧ W.cell? ⟨g5, 0, none⟩ = some (.slice A0 (bytesOf p).length c0) ∧ W.cell? ⟨g5, 1, none⟩ = some (.slice A1 (bytesOf r).length c1) ∧ W.cell? ⟨g6, 0, none⟩ = some (.bool true) ∧ W.cell? ⟨g6, 1, none⟩ = some (.int .u32 la) ∧ W.cell? ⟨g6, 2, none⟩ = some (.int .u32 lb) ∧ W.cell? ⟨g7, 0, none⟩ = some (.int .u8 tv) ∧ W.cell? ⟨g7, 1, none⟩ = some (.bool tm) ∧ W.cell? ⟨g7, 2, none⟩ = some (.int .u32 ta) ∧ W.cell? ⟨g7, 3, none⟩ = some (.int .u32 tb) ∧ W.cell? ⟨g8, 0, none⟩ = some (.int .u8 gv) ∧ W.cell? ⟨g8, 1, none⟩ = some (.bool gm))) (by kernel_rfl) ?hSatf1 (fun hHeld => ?goatf1)
      case hSatf1 => exact keepS HC.out HB.out.drew
      refine wpAnyH_take (i := 0) (v := ?_) hop4_5_0 (by kernel_rfl) (by kernel_rfl) (by kernel_rfl) (fun _ _ _ h => h) (Or.inl ⟨by rfl, ?hyatf2⟩) (by assumption) ?restatf2
      case hyatf2 => (intro w hSw; (try dsimp only at hSw); go_simp; first | (with_reducible rfl) | (rw [if_neg (by omega)]) | skip)
      simp only [Act.put, List.setIfInBounds_toArray, List.set_cons_zero, List.set_cons_succ]
      refine wpAnyH_take (i := 1) (v := ?_) hop4_5_1 (by kernel_rfl) (by kernel_rfl) (by kernel_rfl) (fun _ _ _ h => h) (Or.inl ⟨by rfl, ?hyatf3⟩) (by assumption) ?restatf3
      case hyatf3 => (intro w hSw; (try dsimp only at hSw); go_simp; first | (with_reducible rfl) | (rw [if_neg (by omega)]) | skip)
      simp only [Act.put, List.setIfInBounds_toArray, List.set_cons_zero, List.set_cons_succ]
      refine wpAnyH_take (i := 2) (v := ?_) hop4_5_2 (by kernel_rfl) (by kernel_rfl) (by kernel_rfl) (fun _ _ _ h => h) (Or.inl ⟨by rfl, ?hyatf4⟩) (by assumption) ?restatf4
      case hyatf4 => (intro w hSw; (try dsimp only at hSw); go_simp; first | (with_reducible rfl) | (rw [if_neg (by omega)]) | skip)
      simp only [Act.put, List.setIfInBounds_toArray, List.set_cons_zero, List.set_cons_succ]
      refine wpAnyH_take (i := 3) (v := ?_) hop4_5_3 (by kernel_rfl) (by kernel_rfl) (by kernel_rfl) (fun _ _ _ h => h) (Or.inl ⟨by rfl, ?hyatf5⟩) (by assumption) ?restatf5
      case hyatf5 => (intro w hSw; (try dsimp only at hSw); go_simp; first | (with_reducible rfl) | (rw [if_neg (by omega)]) | skip)
      simp only [Act.put, List.setIfInBounds_toArray, List.set_cons_zero, List.set_cons_succ]
      refine wpAnyH_take (i := 4) (v := undef) hop4_5_4 (by kernel_rfl) (by kernel_rfl) (by kernel_rfl) (fun _ _ _ h => h) (Or.inr ⟨by rfl, rfl⟩) (by assumption) ?_
      simp only [Act.put, List.setIfInBounds_toArray, List.set_cons_zero, List.set_cons_succ]
      refine wpAnyH_take (i := 5) (v := undef) hop4_5_5 (by kernel_rfl) (by kernel_rfl) (by kernel_rfl) (fun _ _ _ h => h) (Or.inr ⟨by rfl, rfl⟩) (by assumption) ?_
      simp only [Act.put, List.setIfInBounds_toArray, List.set_cons_zero, List.set_cons_succ]
      refine wpAnyH_take (i := 6) (v := undef) hop4_5_6 (by kernel_rfl) (by kernel_rfl) (by kernel_rfl) (fun _ _ _ h => h) (Or.inr ⟨by rfl, rfl⟩) (by assumption) ?_
      simp only [Act.put, List.setIfInBounds_toArray, List.set_cons_zero, List.set_cons_succ]
      refine wpAnyH_take (i := 7) (v := undef) hop4_5_7 (by kernel_rfl) (by kernel_rfl) (by kernel_rfl) (fun _ _ _ h => h) (Or.inr ⟨by rfl, rfl⟩) (by assumption) ?_
      simp only [Act.put, List.setIfInBounds_toArray, List.set_cons_zero, List.set_cons_succ]
      refine wpAnyH_take (i := 8) (v := ?_) hop4_5_8 (by kernel_rfl) (by kernel_rfl) (by kernel_rfl) (fun _ _ _ h => h) (Or.inl ⟨by rfl, ?hyatf6⟩) (by assumption) ?restatf6
      case hyatf6 => (intro w hSw; (try dsimp only at hSw); go_simp; first | (with_reducible rfl) | (rw [if_neg (by omega)]) | skip)
      simp only [Act.put, List.setIfInBounds_toArray, List.set_cons_zero, List.set_cons_succ]
      refine wpAnyH_take (i := 9) (v := ?_) hop4_5_9 (by kernel_rfl) (by kernel_rfl) (by kernel_rfl) (fun _ _ _ h => h) (Or.inl ⟨by rfl, ?hyatf7⟩) (by assumption) ?restatf7
      case hyatf7 => (intro w hSw; (try dsimp only at hSw); go_simp; first | (with_reducible rfl) | (rw [if_neg (by omega)]) | skip)
      simp only [Act.put, List.setIfInBounds_toArray, List.set_cons_zero, List.set_cons_succ]
      refine wpAnyH_take (i := 10) (v := ?_) hop4_5_10 (by kernel_rfl) (by kernel_rfl) (by kernel_rfl) (fun _ _ _ h => h) (Or.inl ⟨by rfl, ?hyatf8⟩) (by assumption) ?restatf8
      case hyatf8 => (intro w hSw; (try dsimp only at hSw); go_simp; first | (with_reducible rfl) | (rw [if_neg (by omega)]) | skip)
      simp only [Act.put, List.setIfInBounds_toArray, List.set_cons_zero, List.set_cons_succ]
      refine wpAnyH_take (i := 11) (v := ?_) hop4_5_11 (by kernel_rfl) (by kernel_rfl) (by kernel_rfl) (fun _ _ _ h => h) (Or.inl ⟨by rfl, ?hyatf9⟩) (by assumption) ?restatf9
      case hyatf9 => (intro w hSw; (try dsimp only at hSw); go_simp; first | (with_reducible rfl) | (rw [if_neg (by omega)]) | skip)
      simp only [Act.put, List.setIfInBounds_toArray, List.set_cons_zero, List.set_cons_succ]
      refine wpAnyH_ready (rs := [12]) (by kernel_rfl) (by simp) ?_
      refine AllReadyH.cons hop4_5_12 (fun K hK => ?_) AllReadyH.nil
      go_simp
      go_at_call 23; (with_reducible refine (HRF.out _).mono ?_); rintro e w1 ⟨rfl, hb1⟩
      refine hK.out _ _ ?_ (fun hHeld => ?_)
      · (try dsimp only); exact keepS HC.out (hHeld.1.trans (hb1.mono hHeld.1.size))
      clear hK K
      try simp only [Act.put, List.setIfInBounds_toArray, List.set_cons_zero, List.set_cons_succ]
      refine wpAnyH_take (i := 13) (v := ?_) hop4_5_13 (by kernel_rfl) (by kernel_rfl) (by kernel_rfl) (fun _ _ _ h => h) (Or.inl ⟨by rfl, ?hyatf10⟩) (by assumption) ?restatf10
      case hyatf10 => (intro w hSw; (try dsimp only at hSw); go_simp; first | (with_reducible rfl) | (rw [if_neg (by omega)]) | skip)
      simp only [Act.put, List.setIfInBounds_toArray, List.set_cons_zero, List.set_cons_succ]
      refine wpAnyH_take (i := 14) (v := undef) hop4_5_14 (by kernel_rfl) (by kernel_rfl) (by kernel_rfl) (fun _ _ _ h => h) (Or.inr ⟨by rfl, rfl⟩) (by assumption) ?_
      simp only [Act.put, List.setIfInBounds_toArray, List.set_cons_zero, List.set_cons_succ]
      refine wpAnyH_take (i := 15) (v := undef) hop4_5_15 (by kernel_rfl) (by kernel_rfl) (by kernel_rfl) (fun _ _ _ h => h) (Or.inr ⟨by rfl, rfl⟩) (by assumption) ?_
      simp only [Act.put, List.setIfInBounds_toArray, List.set_cons_zero, List.set_cons_succ]
      refine wpAnyH_take (i := 16) (v := undef) hop4_5_16 (by kernel_rfl) (by kernel_rfl) (by kernel_rfl) (fun _ _ _ h => h) (Or.inr ⟨by rfl, rfl⟩) (by assumption) ?_
      simp only [Act.put, List.setIfInBounds_toArray, List.set_cons_zero, List.set_cons_succ]
      refine wpAnyH_take (i := 17) (v := undef) hop4_5_17 (by kernel_rfl) (by kernel_rfl) (by kernel_rfl) (fun _ _ _ h => h) (Or.inr ⟨by rfl, rfl⟩) (by assumption) ?_
      simp only [Act.put, List.setIfInBounds_toArray, List.set_cons_zero, List.set_cons_succ]
      refine wpAnyH_take (i := 18) (v := undef) hop4_5_18 (by kernel_rfl) (by kernel_rfl) (by kernel_rfl) (fun _ _ _ h => h) (Or.inr ⟨by rfl, rfl⟩) (by assumption) ?_
      simp only [Act.put, List.setIfInBounds_toArray, List.set_cons_zero, List.set_cons_succ]
      refine wpAnyH_take (i := 19) (v := undef) hop4_5_19 (by kernel_rfl) (by kernel_rfl) (by kernel_rfl) (fun _ _ _ h => h) (Or.inr ⟨by rfl, rfl⟩) (by assumption) ?_
      simp only [Act.put, List.setIfInBounds_toArray, List.set_cons_zero, List.set_cons_succ]
      refine wpAnyH_take (i := 20) (v := undef) hop4_5_20 (by kernel_rfl) (by kernel_rfl) (by kernel_rfl) (fun _ _ _ h => h) (Or.inr ⟨by rfl, rfl⟩) (by assumption) ?_
      simp only [Act.put, List.setIfInBounds_toArray, List.set_cons_zero, List.set_cons_succ]
      refine wpAnyH_take (i := 21) (v := undef) hop4_5_21 (by kernel_rfl) (by kernel_rfl) (by kernel_rfl) (fun _ _ _ h => h) (Or.inr ⟨by rfl, rfl⟩) (by assumption) ?_
      simp only [Act.put, List.setIfInBounds_toArray, List.set_cons_zero, List.set_cons_succ]
      refine wpAnyH_take (i := 22) (v := undef) hop4_5_22 (by kernel_rfl) (by kernel_rfl) (by kernel_rfl) (fun _ _ _ h => h) (Or.inr ⟨by rfl, rfl⟩) (by assumption) ?_
      simp only [Act.put, List.setIfInBounds_toArray, List.set_cons_zero, List.set_cons_succ]
      refine wpAnyH_take (i := 23) (v := undef) hop4_5_23 (by kernel_rfl) (by kernel_rfl) (by kernel_rfl) (fun _ _ _ h => h) (Or.inr ⟨by rfl, rfl⟩) (by assumption) ?_
      simp only [Act.put, List.setIfInBounds_toArray, List.set_cons_zero, List.set_cons_succ]
      refine wpAnyH_take (i := 24) (v := undef) hop4_5_24 (by kernel_rfl) (by kernel_rfl) (by kernel_rfl) (fun _ _ _ h => h) (Or.inr ⟨by rfl, rfl⟩) (by assumption) ?_
      simp only [Act.put, List.setIfInBounds_toArray, List.set_cons_zero, List.set_cons_succ]
      refine wpAnyH_take (i := 25) (v := ?_) hop4_5_25 (by kernel_rfl) (by kernel_rfl) (by kernel_rfl) (fun _ _ _ h => h) (Or.inl ⟨by rfl, ?hyatf11⟩) (by assumption) ?restatf11
      case hyatf11 => (intro w hSw; (try dsimp only at hSw); go_simp; first | (with_reducible rfl) | (rw [if_neg (by omega)]) | skip)
      simp only [Act.put, List.setIfInBounds_toArray, List.set_cons_zero, List.set_cons_succ]
      refine wpAnyH_take (i := 26) (v := ?_) hop4_5_26 (by kernel_rfl) (by kernel_rfl) (by kernel_rfl) (fun _ _ _ h => h) (Or.inl ⟨by rfl, ?hyatf12⟩) (by assumption) ?restatf12
      case hyatf12 => (intro w hSw; (try dsimp only at hSw); go_simp; first | (with_reducible rfl) | (rw [if_neg (by omega)]) | skip)
      simp only [Act.put, List.setIfInBounds_toArray, List.set_cons_zero, List.set_cons_succ]
      refine wpAnyH_take (i := 27) (v := ?_) hop4_5_27 (by kernel_rfl) (by kernel_rfl) (by kernel_rfl) (fun _ _ _ h => h) (Or.inl ⟨by rfl, ?hyatf13⟩) (by assumption) ?restatf13
      case hyatf13 => (intro w hSw; (try dsimp only at hSw); go_simp; first | (with_reducible rfl) | (rw [if_neg (by omega)]) | skip)
      simp only [Act.put, List.setIfInBounds_toArray, List.set_cons_zero, List.set_cons_succ]
      refine wpAnyH_done (by kernel_rfl) ?_ _
      refine NoPanic.normal ?_
      exact HQ.out _ _ _ _ _ _ _ _ _ _ _ _ _ _ _ _ _ _ _ _ _ _ _ _ _ _ _ hHeld.1
    | true =>
      cases tm with
      | true =>
        have e1 : bl = true := by rw [← HBL.out]; simp
        have e2 : bt = true := by rw [← HBT.out]; simp
        subst e1 e2
        refine wp_region_noPanic ?_
        refine wp_region_held_drew (S := (fun W => Below wb.heap.size wb W ∧ W.cell? ⟨X, 0, none⟩ = some (.int .u8 vv) ∧ W.cell? ⟨X, 1, none⟩ = some (.string p) ∧ W.cell? ⟨X, 2, none⟩ = some (.string r) ∧ W.cell? ⟨X, 3, none⟩ = some (.bool true) ∧ W.cell? ⟨X, 4, none⟩ = some (.int .u32 la) ∧ W.cell? ⟨X, 5, none⟩ = some (.int .u32 lb) ∧ W.cell? ⟨X, 6, none⟩ = some (.int .u8 tv) ∧ W.cell? ⟨X, 7, none⟩ = some (.bool true) ∧ W.cell? ⟨X, 8, none⟩ = some (.int .u32 ta) ∧ W.cell? ⟨X, 9, none⟩ = some (.int .u32 tb) ∧ W.cell? ⟨X, 10, none⟩ = some (.int .u8 gv) ∧ W.cell? ⟨X, 11, none⟩ = some (.bool gm) ∧ W.cell? ⟨Y, 0, none⟩ = some (.string s) ∧ W.cell? ⟨Y, 1, none⟩ = some (.string u) ∧ W.cell? ⟨g5, 0, none⟩ = some (.slice A0 (bytesOf p).length c0) ∧ W.cell? ⟨g5, 1, none⟩ = some (.slice A1 (bytesOf r).length c1) ∧ W.cell? ⟨g6, 0, none⟩ = some (.bool true) ∧ W.cell? ⟨g6, 1, none⟩ = some (.int .u32 la) ∧ W.cell? ⟨g6, 2, none⟩ = some (.int .u32 lb) ∧ W.cell? ⟨g7, 0, none⟩ = some (.int .u8 tv) ∧ W.cell? ⟨g7, 1, none⟩ = some (.bool true) ∧ W.cell? ⟨g7, 2, none⟩ = some (.int .u32 ta) ∧ W.cell? ⟨g7, 3, none⟩ = some (.int .u32 tb) ∧ W.cell? ⟨g8, 0, none⟩ = some (.int .u8 gv) ∧ W.cell? ⟨g8, 1, none⟩ = some (.bool gm))) (by kernel_rfl) ?hSattt1 (fun hHeld => ?goattt1)
        case hSattt1 => exact keepS HC.out HB.out.drew
        refine wpAnyH_take (i := 0) (v := ?_) hop4_5_0 (by kernel_rfl) (by kernel_rfl) (by kernel_rfl) (fun _ _ _ h => h) (Or.inl ⟨by rfl, ?hyattt2⟩) (by assumption) ?restattt2
        case hyattt2 => (intro w hSw; (try dsimp only at hSw); go_simp; first | (with_reducible rfl) | (rw [if_neg (by omega)]) | skip)
        simp only [Act.put, List.setIfInBounds_toArray, List.set_cons_zero, List.set_cons_succ]
        refine wpAnyH_take (i := 1) (v := ?_) hop4_5_1 (by kernel_rfl) (by kernel_rfl) (by kernel_rfl) (fun _ _ _ h => h) (Or.inl ⟨by rfl, ?hyattt3⟩) (by assumption) ?restattt3
        case hyattt3 => (intro w hSw; (try dsimp only at hSw); go_simp; first | (with_reducible rfl) | (rw [if_neg (by omega)]) | skip)
        simp only [Act.put, List.setIfInBounds_toArray, List.set_cons_zero, List.set_cons_succ]
        refine wpAnyH_take (i := 2) (v := ?_) hop4_5_2 (by kernel_rfl) (by kernel_rfl) (by kernel_rfl) (fun _ _ _ h => h) (Or.inl ⟨by rfl, ?hyattt4⟩) (by assumption) ?restattt4
        case hyattt4 => (intro w hSw; (try dsimp only at hSw); go_simp; first | (with_reducible rfl) | (rw [if_neg (by omega)]) | skip)
        simp only [Act.put, List.setIfInBounds_toArray, List.set_cons_zero, List.set_cons_succ]
        refine wpAnyH_take (i := 3) (v := ?_) hop4_5_3 (by kernel_rfl) (by kernel_rfl) (by kernel_rfl) (fun _ _ _ h => h) (Or.inl ⟨by rfl, ?hyattt5⟩) (by assumption) ?restattt5
        case hyattt5 => (intro w hSw; (try dsimp only at hSw); go_simp; first | (with_reducible rfl) | (rw [if_neg (by omega)]) | skip)
        simp only [Act.put, List.setIfInBounds_toArray, List.set_cons_zero, List.set_cons_succ]
        refine wpAnyH_take (i := 4) (v := undef) hop4_5_4 (by kernel_rfl) (by kernel_rfl) (by kernel_rfl) (fun _ _ _ h => h) (Or.inr ⟨by rfl, rfl⟩) (by assumption) ?_
        simp only [Act.put, List.setIfInBounds_toArray, List.set_cons_zero, List.set_cons_succ]
        refine wpAnyH_take (i := 5) (v := undef) hop4_5_5 (by kernel_rfl) (by kernel_rfl) (by kernel_rfl) (fun _ _ _ h => h) (Or.inr ⟨by rfl, rfl⟩) (by assumption) ?_
        simp only [Act.put, List.setIfInBounds_toArray, List.set_cons_zero, List.set_cons_succ]
        refine wpAnyH_take (i := 6) (v := undef) hop4_5_6 (by kernel_rfl) (by kernel_rfl) (by kernel_rfl) (fun _ _ _ h => h) (Or.inr ⟨by rfl, rfl⟩) (by assumption) ?_
        simp only [Act.put, List.setIfInBounds_toArray, List.set_cons_zero, List.set_cons_succ]
        refine wpAnyH_take (i := 7) (v := undef) hop4_5_7 (by kernel_rfl) (by kernel_rfl) (by kernel_rfl) (fun _ _ _ h => h) (Or.inr ⟨by rfl, rfl⟩) (by assumption) ?_
        simp only [Act.put, List.setIfInBounds_toArray, List.set_cons_zero, List.set_cons_succ]
        refine wpAnyH_take (i := 8) (v := ?_) hop4_5_8 (by kernel_rfl) (by kernel_rfl) (by kernel_rfl) (fun _ _ _ h => h) (Or.inl ⟨by rfl, ?hyattt6⟩) (by assumption) ?restattt6
        case hyattt6 => (intro w hSw; (try dsimp only at hSw); go_simp; first | (with_reducible rfl) | (rw [if_neg (by omega)]) | skip)
        simp only [Act.put, List.setIfInBounds_toArray, List.set_cons_zero, List.set_cons_succ]
        refine wpAnyH_take (i := 9) (v := ?_) hop4_5_9 (by kernel_rfl) (by kernel_rfl) (by kernel_rfl) (fun _ _ _ h => h) (Or.inl ⟨by rfl, ?hyattt7⟩) (by assumption) ?restattt7
        case hyattt7 => (intro w hSw; (try dsimp only at hSw); go_simp; first | (with_reducible rfl) | (rw [if_neg (by omega)]) | skip)
        simp only [Act.put, List.setIfInBounds_toArray, List.set_cons_zero, List.set_cons_succ]
        refine wpAnyH_take (i := 10) (v := ?_) hop4_5_10 (by kernel_rfl) (by kernel_rfl) (by kernel_rfl) (fun _ _ _ h => h) (Or.inl ⟨by rfl, ?hyattt8⟩) (by assumption) ?restattt8
        case hyattt8 => (intro w hSw; (try dsimp only at hSw); go_simp; first | (with_reducible rfl) | (rw [if_neg (by omega)]) | skip)
        simp only [Act.put, List.setIfInBounds_toArray, List.set_cons_zero, List.set_cons_succ]
        refine wpAnyH_take (i := 11) (v := ?_) hop4_5_11 (by kernel_rfl) (by kernel_rfl) (by kernel_rfl) (fun _ _ _ h => h) (Or.inl ⟨by rfl, ?hyattt9⟩) (by assumption) ?restattt9
        case hyattt9 => (intro w hSw; (try dsimp only at hSw); go_simp; first | (with_reducible rfl) | (rw [if_neg (by omega)]) | skip)
        simp only [Act.put, List.setIfInBounds_toArray, List.set_cons_zero, List.set_cons_succ]
        refine wpAnyH_ready (rs := [12]) (by kernel_rfl) (by simp) ?_
        refine AllReadyH.cons hop4_5_12 (fun K hK => ?_) AllReadyH.nil
        go_simp
        go_at_call 23; (with_reducible refine (HRF.out _).mono ?_); rintro e w1 ⟨rfl, hb1⟩
        refine hK.out _ _ ?_ (fun hHeld => ?_)
        · (try dsimp only); exact keepS HC.out (hHeld.1.trans (hb1.mono hHeld.1.size))
        clear hK K
        try simp only [Act.put, List.setIfInBounds_toArray, List.set_cons_zero, List.set_cons_succ]
        refine wpAnyH_take (i := 13) (v := ?_) hop4_5_13 (by kernel_rfl) (by kernel_rfl) (by kernel_rfl) (fun _ _ _ h => h) (Or.inl ⟨by rfl, ?hyattt10⟩) (by assumption) ?restattt10
        case hyattt10 => (intro w hSw; (try dsimp only at hSw); go_simp; first | (with_reducible rfl) | (rw [if_neg (by omega)]) | skip)
        simp only [Act.put, List.setIfInBounds_toArray, List.set_cons_zero, List.set_cons_succ]
        refine wpAnyH_take (i := 14) (v := ?_) hop4_5_14 (by kernel_rfl) (by kernel_rfl) (by kernel_rfl) (fun _ _ _ h => h) (Or.inl ⟨by rfl, ?hyattt11⟩) (by assumption) ?restattt11
        case hyattt11 => (intro w hSw; (try dsimp only at hSw); go_simp; first | (with_reducible rfl) | (rw [if_neg (by omega)]) | skip)
        simp only [Act.put, List.setIfInBounds_toArray, List.set_cons_zero, List.set_cons_succ]
        refine wpAnyH_take (i := 15) (v := ?_) hop4_5_15 (by kernel_rfl) (by kernel_rfl) (by kernel_rfl) (fun _ _ _ h => h) (Or.inl ⟨by rfl, ?hyattt12⟩) (by assumption) ?restattt12
        case hyattt12 => (intro w hSw; (try dsimp only at hSw); go_simp; first | (with_reducible rfl) | (rw [if_neg (by omega)]) | skip)
        simp only [Act.put, List.setIfInBounds_toArray, List.set_cons_zero, List.set_cons_succ]
        refine wpAnyH_take (i := 16) (v := ?_) hop4_5_16 (by kernel_rfl) (by kernel_rfl) (by kernel_rfl) (fun _ _ _ h => h) (Or.inl ⟨by rfl, ?hyattt13⟩) (by assumption) ?restattt13
        case hyattt13 => (intro w hSw; (try dsimp only at hSw); go_simp; first | (with_reducible rfl) | (rw [if_neg (by omega)]) | skip)
        simp only [Act.put, List.setIfInBounds_toArray, List.set_cons_zero, List.set_cons_succ]
        refine wpAnyH_take (i := 17) (v := ?_) hop4_5_17 (by kernel_rfl) (by kernel_rfl) (by kernel_rfl) (fun _ _ _ h => h) (Or.inl ⟨by rfl, ?hyattt14⟩) (by assumption) ?restattt14
        case hyattt14 => (intro w hSw; (try dsimp only at hSw); go_simp; first | (with_reducible rfl) | (rw [if_neg (by omega)]) | skip)
        simp only [Act.put, List.setIfInBounds_toArray, List.set_cons_zero, List.set_cons_succ]
        refine wpAnyH_take (i := 18) (v := ?_) hop4_5_18 (by kernel_rfl) (by kernel_rfl) (by kernel_rfl) (fun _ _ _ h => h) (Or.inl ⟨by rfl, ?hyattt15⟩) (by assumption) ?restattt15
        case hyattt15 => (intro w hSw; (try dsimp only at hSw); go_simp; first | (with_reducible rfl) | (rw [if_neg (by omega)]) | skip)
        simp only [Act.put, List.setIfInBounds_toArray, List.set_cons_zero, List.set_cons_succ]
        refine wpAnyH_take (i := 19) (v := undef) hop4_5_19 (by kernel_rfl) (by kernel_rfl) (by kernel_rfl) (fun _ _ _ h => h) (Or.inr ⟨by rfl, rfl⟩) (by assumption) ?_
        simp only [Act.put, List.setIfInBounds_toArray, List.set_cons_zero, List.set_cons_succ]
        refine wpAnyH_take (i := 20) (v := undef) hop4_5_20 (by kernel_rfl) (by kernel_rfl) (by kernel_rfl) (fun _ _ _ h => h) (Or.inr ⟨by rfl, rfl⟩) (by assumption) ?_
        simp only [Act.put, List.setIfInBounds_toArray, List.set_cons_zero, List.set_cons_succ]
        refine wpAnyH_take (i := 21) (v := undef) hop4_5_21 (by kernel_rfl) (by kernel_rfl) (by kernel_rfl) (fun _ _ _ h => h) (Or.inr ⟨by rfl, rfl⟩) (by assumption) ?_
        simp only [Act.put, List.setIfInBounds_toArray, List.set_cons_zero, List.set_cons_succ]
        refine wpAnyH_take (i := 22) (v := undef) hop4_5_22 (by kernel_rfl) (by kernel_rfl) (by kernel_rfl) (fun _ _ _ h => h) (Or.inr ⟨by rfl, rfl⟩) (by assumption) ?_
        simp only [Act.put, List.setIfInBounds_toArray, List.set_cons_zero, List.set_cons_succ]
        refine wpAnyH_take (i := 23) (v := undef) hop4_5_23 (by kernel_rfl) (by kernel_rfl) (by kernel_rfl) (fun _ _ _ h => h) (Or.inr ⟨by rfl, rfl⟩) (by assumption) ?_
        simp only [Act.put, List.setIfInBounds_toArray, List.set_cons_zero, List.set_cons_succ]
        refine wpAnyH_take (i := 24) (v := ?_) hop4_5_24 (by kernel_rfl) (by kernel_rfl) (by kernel_rfl) (fun _ _ _ h => h) (Or.inl ⟨by rfl, ?hyattt16⟩) (by assumption) ?restattt16
        case hyattt16 => (intro w hSw; (try dsimp only at hSw); go_simp; first | (with_reducible rfl) | (rw [if_neg (by omega)]) | skip)
        simp only [Act.put, List.setIfInBounds_toArray, List.set_cons_zero, List.set_cons_succ]
        refine wpAnyH_take (i := 25) (v := ?_) hop4_5_25 (by kernel_rfl) (by kernel_rfl) (by kernel_rfl) (fun _ _ _ h => h) (Or.inl ⟨by rfl, ?hyattt17⟩) (by assumption) ?restattt17
        case hyattt17 => (intro w hSw; (try dsimp only at hSw); go_simp; first | (with_reducible rfl) | (rw [if_neg (by omega)]) | skip)
        simp only [Act.put, List.setIfInBounds_toArray, List.set_cons_zero, List.set_cons_succ]
        refine wpAnyH_take (i := 26) (v := ?_) hop4_5_26 (by kernel_rfl) (by kernel_rfl) (by kernel_rfl) (fun _ _ _ h => h) (Or.inl ⟨by rfl, ?hyattt18⟩) (by assumption) ?restattt18
        case hyattt18 => (intro w hSw; (try dsimp only at hSw); go_simp; first | (with_reducible rfl) | (rw [if_neg (by omega)]) | skip)
        simp only [Act.put, List.setIfInBounds_toArray, List.set_cons_zero, List.set_cons_succ]
        refine wpAnyH_take (i := 27) (v := ?_) hop4_5_27 (by kernel_rfl) (by kernel_rfl) (by kernel_rfl) (fun _ _ _ h => h) (Or.inl ⟨by rfl, ?hyattt19⟩) (by assumption) ?restattt19
        case hyattt19 => (intro w hSw; (try dsimp only at hSw); go_simp; first | (with_reducible rfl) | (rw [if_neg (by omega)]) | skip)
        simp only [Act.put, List.setIfInBounds_toArray, List.set_cons_zero, List.set_cons_succ]
        refine wpAnyH_done (by kernel_rfl) ?_ _
        refine NoPanic.normal ?_
        exact HQ.out _ _ _ _ _ _ _ _ _ _ _ _ _ _ _ _ _ _ _ _ _ _ _ _ _ _ _ hHeld.1
      | false =>
        have e1 : bl = true := by rw [← HBL.out]; simp
        have e2 : bt = (tb == 0) := by rw [← HBT.out]; simp
        subst e1 e2
        refine wp_region_noPanic ?_
        refine wp_region_held_drew (S := (fun W => Below wb.heap.size wb W ∧ W.cell? ⟨X, 0, none⟩ = some (.int .u8 vv) ∧ W.cell? ⟨X, 1, none⟩ = some (.string p) ∧ W.cell? ⟨X, 2, none⟩ = some (.string r) ∧ W.cell? ⟨X, 3, none⟩ = some (.bool true) ∧ W.cell? ⟨X, 4, none⟩ = some (.int .u32 la) ∧ W.cell? ⟨X, 5, none⟩ = some (.int .u32 lb) ∧ W.cell? ⟨X, 6, none⟩ = some (.int .u8 tv) ∧ W.cell? ⟨X, 7, none⟩ = some (.bool false) ∧ W.cell? ⟨X, 8, none⟩ = some (.int .u32 ta) ∧ W.cell? ⟨X, 9, none⟩ = some (.int .u32 tb) ∧ W.cell? ⟨X, 10, none⟩ = some (.int .u8 gv) ∧ W.cell? ⟨X, 11, none⟩ = some (.bool gm) ∧ W.cell? ⟨Y, 0, none⟩ = some (.string s) ∧ W.cell? ⟨Y, 1, none⟩ = some (.string u) ∧ W.cell? ⟨g5, 0, none⟩ = some (.slice A0 (bytesOf p).length c0) ∧ W.cell? ⟨g5, 1, none⟩ = some (.slice A1 (bytesOf r).length c1) ∧ W.cell? ⟨g6, 0, none⟩ = some (.bool true) ∧ W.cell? ⟨g6, 1, none⟩ = some (.int .u32 la) ∧ W.cell? ⟨g6, 2, none⟩ = some (.int .u32 lb) ∧ W.cell? ⟨g7, 0, none⟩ = some (.int .u8 tv) ∧ W.cell? ⟨g7, 1, none⟩ = some (.bool false) ∧ W.cell? ⟨g7, 2, none⟩ = some (.int .u32 ta) ∧ W.cell? ⟨g7, 3, none⟩ = some (.int .u32 tb) ∧ W.cell? ⟨g8, 0, none⟩ = some (.int .u8 gv) ∧ W.cell? ⟨g8, 1, none⟩ = some (.bool gm))) (by kernel_rfl) ?hSattf1 (fun hHeld => ?goattf1)
        case hSattf1 => exact keepS HC.out HB.out.drew
        refine wpAnyH_take (i := 0) (v := ?_) hop4_5_0 (by kernel_rfl) (by kernel_rfl) (by kernel_rfl) (fun _ _ _ h => h) (Or.inl ⟨by rfl, ?hyattf2⟩) (by assumption) ?restattf2
        case hyattf2 => (intro w hSw; (try dsimp only at hSw); go_simp; first | (with_reducible rfl) | (rw [if_neg (by omega)]) | skip)
        simp only [Act.put, List.setIfInBounds_toArray, List.set_cons_zero, List.set_cons_succ]
        refine wpAnyH_take (i := 1) (v := ?_) hop4_5_1 (by kernel_rfl) (by kernel_rfl) (by kernel_rfl) (fun _ _ _ h => h) (Or.inl ⟨by rfl, ?hyattf3⟩) (by assumption) ?restattf3
        case hyattf3 => (intro w hSw; (try dsimp only at hSw); go_simp; first | (with_reducible rfl) | (rw [if_neg (by omega)]) | skip)
        simp only [Act.put, List.setIfInBounds_toArray, List.set_cons_zero, List.set_cons_succ]
        refine wpAnyH_take (i := 2) (v := ?_) hop4_5_2 (by kernel_rfl) (by kernel_rfl) (by kernel_rfl) (fun _ _ _ h => h) (Or.inl ⟨by rfl, ?hyattf4⟩) (by assumption) ?restattf4
        case hyattf4 => (intro w hSw; (try dsimp only at hSw); go_simp; first | (with_reducible rfl) | (rw [if_neg (by omega)]) | skip)
        simp only [Act.put, List.setIfInBounds_toArray, List.set_cons_zero, List.set_cons_succ]
        refine wpAnyH_take (i := 3) (v := ?_) hop4_5_3 (by kernel_rfl) (by kernel_rfl) (by kernel_rfl) (fun _ _ _ h => h) (Or.inl ⟨by rfl, ?hyattf5⟩) (by assumption) ?restattf5
        case hyattf5 => (intro w hSw; (try dsimp only at hSw); go_simp; first | (with_reducible rfl) | (rw [if_neg (by omega)]) | skip)
        simp only [Act.put, List.setIfInBounds_toArray, List.set_cons_zero, List.set_cons_succ]
        refine wpAnyH_take (i := 4) (v := undef) hop4_5_4 (by kernel_rfl) (by kernel_rfl) (by kernel_rfl) (fun _ _ _ h => h) (Or.inr ⟨by rfl, rfl⟩) (by assumption) ?_
        simp only [Act.put, List.setIfInBounds_toArray, List.set_cons_zero, List.set_cons_succ]
        refine wpAnyH_take (i := 5) (v := undef) hop4_5_5 (by kernel_rfl) (by kernel_rfl) (by kernel_rfl) (fun _ _ _ h => h) (Or.inr ⟨by rfl, rfl⟩) (by assumption) ?_
        simp only [Act.put, List.setIfInBounds_toArray, List.set_cons_zero, List.set_cons_succ]
        refine wpAnyH_take (i := 6) (v := undef) hop4_5_6 (by kernel_rfl) (by kernel_rfl) (by kernel_rfl) (fun _ _ _ h => h) (Or.inr ⟨by rfl, rfl⟩) (by assumption) ?_
        simp only [Act.put, List.setIfInBounds_toArray, List.set_cons_zero, List.set_cons_succ]
        refine wpAnyH_take (i := 7) (v := undef) hop4_5_7 (by kernel_rfl) (by kernel_rfl) (by kernel_rfl) (fun _ _ _ h => h) (Or.inr ⟨by rfl, rfl⟩) (by assumption) ?_
        simp only [Act.put, List.setIfInBounds_toArray, List.set_cons_zero, List.set_cons_succ]
        refine wpAnyH_take (i := 8) (v := ?_) hop4_5_8 (by kernel_rfl) (by kernel_rfl) (by kernel_rfl) (fun _ _ _ h => h) (Or.inl ⟨by rfl, ?hyattf6⟩) (by assumption) ?restattf6
        case hyattf6 => (intro w hSw; (try dsimp only at hSw); go_simp; first | (with_reducible rfl) | (rw [if_neg (by omega)]) | skip)
        simp only [Act.put, List.setIfInBounds_toArray, List.set_cons_zero, List.set_cons_succ]
        refine wpAnyH_take (i := 9) (v := ?_) hop4_5_9 (by kernel_rfl) (by kernel_rfl) (by kernel_rfl) (fun _ _ _ h => h) (Or.inl ⟨by rfl, ?hyattf7⟩) (by assumption) ?restattf7
        case hyattf7 => (intro w hSw; (try dsimp only at hSw); go_simp; first | (with_reducible rfl) | (rw [if_neg (by omega)]) | skip)
        simp only [Act.put, List.setIfInBounds_toArray, List.set_cons_zero, List.set_cons_succ]
        refine wpAnyH_take (i := 10) (v := ?_) hop4_5_10 (by kernel_rfl) (by kernel_rfl) (by kernel_rfl) (fun _ _ _ h => h) (Or.inl ⟨by rfl, ?hyattf8⟩) (by assumption) ?restattf8
        case hyattf8 => (intro w hSw; (try dsimp only at hSw); go_simp; first | (with_reducible rfl) | (rw [if_neg (by omega)]) | skip)
        simp only [Act.put, List.setIfInBounds_toArray, List.set_cons_zero, List.set_cons_succ]
        refine wpAnyH_take (i := 11) (v := ?_) hop4_5_11 (by kernel_rfl) (by kernel_rfl) (by kernel_rfl) (fun _ _ _ h => h) (Or.inl ⟨by rfl, ?hyattf9⟩) (by assumption) ?restattf9
        case hyattf9 => (intro w hSw; (try dsimp only at hSw); go_simp; first | (with_reducible rfl) | (rw [if_neg (by omega)]) | skip)
        simp only [Act.put, List.setIfInBounds_toArray, List.set_cons_zero, List.set_cons_succ]
        refine wpAnyH_ready (rs := [12]) (by kernel_rfl) (by simp) ?_
        refine AllReadyH.cons hop4_5_12 (fun K hK => ?_) AllReadyH.nil
        go_simp
        go_at_call 23; (with_reducible refine (HRF.out _).mono ?_); rintro e w1 ⟨rfl, hb1⟩
        refine hK.out _ _ ?_ (fun hHeld => ?_)
        · (try dsimp only); exact keepS HC.out (hHeld.1.trans (hb1.mono hHeld.1.size))
        clear hK K
        try simp only [Act.put, List.setIfInBounds_toArray, List.set_cons_zero, List.set_cons_succ]
        refine wpAnyH_take (i := 13) (v := ?_) hop4_5_13 (by kernel_rfl) (by kernel_rfl) (by kernel_rfl) (fun _ _ _ h => h) (Or.inl ⟨by rfl, ?hyattf10⟩) (by assumption) ?restattf10
        case hyattf10 => (intro w hSw; (try dsimp only at hSw); go_simp; first | (with_reducible rfl) | (rw [if_neg (by omega)]) | skip)
        simp only [Act.put, List.setIfInBounds_toArray, List.set_cons_zero, List.set_cons_succ]
        refine wpAnyH_take (i := 14) (v := ?_) hop4_5_14 (by kernel_rfl) (by kernel_rfl) (by kernel_rfl) (fun _ _ _ h => h) (Or.inl ⟨by rfl, ?hyattf11⟩) (by assumption) ?restattf11
        case hyattf11 => (intro w hSw; (try dsimp only at hSw); go_simp; first | (with_reducible rfl) | (rw [if_neg (by omega)]) | skip)
        simp only [Act.put, List.setIfInBounds_toArray, List.set_cons_zero, List.set_cons_succ]
        refine wpAnyH_take (i := 15) (v := ?_) hop4_5_15 (by kernel_rfl) (by kernel_rfl) (by kernel_rfl) (fun _ _ _ h => h) (Or.inl ⟨by rfl, ?hyattf12⟩) (by assumption) ?restattf12
        case hyattf12 => (intro w hSw; (try dsimp only at hSw); go_simp; first | (with_reducible rfl) | (rw [if_neg (by omega)]) | skip)
        simp only [Act.put, List.setIfInBounds_toArray, List.set_cons_zero, List.set_cons_succ]
        refine wpAnyH_take (i := 16) (v := ?_) hop4_5_16 (by kernel_rfl) (by kernel_rfl) (by kernel_rfl) (fun _ _ _ h => h) (Or.inl ⟨by rfl, ?hyattf13⟩) (by assumption) ?restattf13
        case hyattf13 => (intro w hSw; (try dsimp only at hSw); go_simp; first | (with_reducible rfl) | (rw [if_neg (by omega)]) | skip)
        simp only [Act.put, List.setIfInBounds_toArray, List.set_cons_zero, List.set_cons_succ]
        refine wpAnyH_take (i := 17) (v := ?_) hop4_5_17 (by kernel_rfl) (by kernel_rfl) (by kernel_rfl) (fun _ _ _ h => h) (Or.inl ⟨by rfl, ?hyattf14⟩) (by assumption) ?restattf14
        case hyattf14 => (intro w hSw; (try dsimp only at hSw); go_simp; first | (with_reducible rfl) | (rw [if_neg (by omega)]) | skip)
        simp only [Act.put, List.setIfInBounds_toArray, List.set_cons_zero, List.set_cons_succ]
        refine wpAnyH_take (i := 18) (v := ?_) hop4_5_18 (by kernel_rfl) (by kernel_rfl) (by kernel_rfl) (fun _ _ _ h => h) (Or.inl ⟨by rfl, ?hyattf15⟩) (by assumption) ?restattf15
        case hyattf15 => (intro w hSw; (try dsimp only at hSw); go_simp; first | (with_reducible rfl) | (rw [if_neg (by omega)]) | skip)
        simp only [Act.put, List.setIfInBounds_toArray, List.set_cons_zero, List.set_cons_succ]
        refine wpAnyH_take (i := 19) (v := ?_) hop4_5_19 (by kernel_rfl) (by kernel_rfl) (by kernel_rfl) (fun _ _ _ h => h) (Or.inl ⟨by rfl, ?hyattf16⟩) (by assumption) ?restattf16
        case hyattf16 => (intro w hSw; (try dsimp only at hSw); go_simp; first | (with_reducible rfl) | (rw [if_neg (by omega)]) | skip)
        simp only [Act.put, List.setIfInBounds_toArray, List.set_cons_zero, List.set_cons_succ]
        refine wpAnyH_take (i := 20) (v := ?_) hop4_5_20 (by kernel_rfl) (by kernel_rfl) (by kernel_rfl) (fun _ _ _ h => h) (Or.inl ⟨by rfl, ?hyattf17⟩) (by assumption) ?restattf17
        case hyattf17 => (intro w hSw; (try dsimp only at hSw); go_simp; first | (with_reducible rfl) | (rw [if_neg (by omega)]) | skip)
        simp only [Act.put, List.setIfInBounds_toArray, List.set_cons_zero, List.set_cons_succ]
        refine wpAnyH_take (i := 21) (v := ?_) hop4_5_21 (by kernel_rfl) (by kernel_rfl) (by kernel_rfl) (fun _ _ _ h => h) (Or.inl ⟨by rfl, ?hyattf18⟩) (by assumption) ?restattf18
        case hyattf18 => (intro w hSw; (try dsimp only at hSw); go_simp; first | (with_reducible rfl) | (rw [if_neg (by omega)]) | skip)
        simp only [Act.put, List.setIfInBounds_toArray, List.set_cons_zero, List.set_cons_succ]
        refine wpAnyH_take (i := 22) (v := ?_) hop4_5_22 (by kernel_rfl) (by kernel_rfl) (by kernel_rfl) (fun _ _ _ h => h) (Or.inl ⟨by rfl, ?hyattf19⟩) (by assumption) ?restattf19
        case hyattf19 => (intro w hSw; (try dsimp only at hSw); go_simp; first | (with_reducible rfl) | (rw [if_neg (by omega)]) | skip)
        simp only [Act.put, List.setIfInBounds_toArray, List.set_cons_zero, List.set_cons_succ]
        refine wpAnyH_take (i := 23) (v := ?_) hop4_5_23 (by kernel_rfl) (by kernel_rfl) (by kernel_rfl) (fun _ _ _ h => h) (Or.inl ⟨by rfl, ?hyattf20⟩) (by assumption) ?restattf20
        case hyattf20 => (intro w hSw; (try dsimp only at hSw); go_simp; first | (with_reducible rfl) | (rw [if_neg (by omega)]) | skip)
        simp only [Act.put, List.setIfInBounds_toArray, List.set_cons_zero, List.set_cons_succ]
        refine wpAnyH_take (i := 24) (v := ?_) hop4_5_24 (by kernel_rfl) (by kernel_rfl) (by kernel_rfl) (fun _ _ _ h => h) (Or.inl ⟨by rfl, ?hyattf21⟩) (by assumption) ?restattf21
        case hyattf21 => (intro w hSw; (try dsimp only at hSw); go_simp; first | (with_reducible rfl) | (rw [if_neg (by omega)]) | skip)
        simp only [Act.put, List.setIfInBounds_toArray, List.set_cons_zero, List.set_cons_succ]
        refine wpAnyH_take (i := 25) (v := ?_) hop4_5_25 (by kernel_rfl) (by kernel_rfl) (by kernel_rfl) (fun _ _ _ h => h) (Or.inl ⟨by rfl, ?hyattf22⟩) (by assumption) ?restattf22
        case hyattf22 => (intro w hSw; (try dsimp only at hSw); go_simp; first | (with_reducible rfl) | (rw [if_neg (by omega)]) | skip)
        simp only [Act.put, List.setIfInBounds_toArray, List.set_cons_zero, List.set_cons_succ]
        refine wpAnyH_take (i := 26) (v := ?_) hop4_5_26 (by kernel_rfl) (by kernel_rfl) (by kernel_rfl) (fun _ _ _ h => h) (Or.inl ⟨by rfl, ?hyattf23⟩) (by assumption) ?restattf23
        case hyattf23 => (intro w hSw; (try dsimp only at hSw); go_simp; first | (with_reducible rfl) | (rw [if_neg (by omega)]) | skip)
        simp only [Act.put, List.setIfInBounds_toArray, List.set_cons_zero, List.set_cons_succ]
        refine wpAnyH_take (i := 27) (v := ?_) hop4_5_27 (by kernel_rfl) (by kernel_rfl) (by kernel_rfl) (fun _ _ _ h => h) (Or.inl ⟨by rfl, ?hyattf24⟩) (by assumption) ?restattf24
        case hyattf24 => (intro w hSw; (try dsimp only at hSw); go_simp; first | (with_reducible rfl) | (rw [if_neg (by omega)]) | skip)
        simp only [Act.put, List.setIfInBounds_toArray, List.set_cons_zero, List.set_cons_succ]
        refine wpAnyH_done (by kernel_rfl) ?_ _
        refine NoPanic.normal ?_
        exact HQ.out _ _ _ _ _ _ _ _ _ _ _ _ _ _ _ _ _ _ _ _ _ _ _ _ _ _ _ hHeld.1
  | false =>
    cases b with
    | false =>
      have e1 : bl = (lb == 0) := by rw [← HBL.out]; simp
      have e2 : bt = false := by rw [← HBT.out]; simp
      subst e1 e2
      refine wp_region_noPanic ?_
      refine wp_region_held_drew (S := (fun W => Below wb.heap.size wb W ∧ W.cell? ⟨X, 0, none⟩ = some (.int .u8 vv) ∧ W.cell? ⟨X, 1, none⟩ = some (.string p) ∧ W.cell? ⟨X, 2, none⟩ = some (.string r) ∧ W.cell? ⟨X, 3, none⟩ = some (.bool false) ∧ W.cell? ⟨X, 4, none⟩ = some (.int .u32 la) ∧ W.cell? ⟨X, 5, none⟩ = some (.int .u32 lb) ∧ W.cell? ⟨X, 6, none⟩ = some (.int .u8 tv) ∧ W.cell? ⟨X, 7, none⟩ = some (.bool tm) ∧ W.cell? ⟨X, 8, none⟩ = some (.int .u32 ta) ∧ W.cell? ⟨X, 9, none⟩ = some (.int .u32 tb) ∧ W.cell? ⟨X, 10, none⟩ = some (.int .u8 gv) ∧ W.cell? ⟨X, 11, none⟩ = some (.bool gm) ∧ W.cell? ⟨Y, 0, none⟩ = some (.string s) ∧ W.cell? ⟨Y, 1, none⟩ = some (.string u) ∧ W.cell? ⟨g5, 0, none⟩ = some (.slice A0 (bytesOf p).length c0) ∧ W.cell? ⟨g5, 1, none⟩ = some (.slice A1 (bytesOf r).length c1) ∧ W.cell? ⟨g6, 0, none⟩ = some (.bool false) ∧ W.cell? ⟨g6, 1, none⟩ = some (.int .u32 la) ∧ W.cell? ⟨g6, 2, none⟩ = some (.int .u32 lb) ∧ W.cell? ⟨g7, 0, none⟩ = some (.int .u8 tv) ∧ W.cell? ⟨g7, 1, none⟩ = some (.bool tm) ∧ W.cell? ⟨g7, 2, none⟩ = some (.int .u32 ta) ∧ W.cell? ⟨g7, 3, none⟩ = some (.int .u32 tb) ∧ W.cell? ⟨g8, 0, none⟩ = some (.int .u8 gv) ∧ W.cell? ⟨g8, 1, none⟩ = some (.bool gm))) (by kernel_rfl) ?hSaff1 (fun hHeld => ?goaff1)
      case hSaff1 => exact keepS HC.out HB.out.drew
      refine wpAnyH_take (i := 0) (v := ?_) hop4_5_0 (by kernel_rfl) (by kernel_rfl) (by kernel_rfl) (fun _ _ _ h => h) (Or.inl ⟨by rfl, ?hyaff2⟩) (by assumption) ?restaff2
      case hyaff2 => (intro w hSw; (try dsimp only at hSw); go_simp; first | (with_reducible rfl) | (rw [if_neg (by omega)]) | skip)
      simp only [Act.put, List.setIfInBounds_toArray, List.set_cons_zero, List.set_cons_succ]
      refine wpAnyH_take (i := 1) (v := ?_) hop4_5_1 (by kernel_rfl) (by kernel_rfl) (by kernel_rfl) (fun _ _ _ h => h) (Or.inl ⟨by rfl, ?hyaff3⟩) (by assumption) ?restaff3
      case hyaff3 => (intro w hSw; (try dsimp only at hSw); go_simp; first | (with_reducible rfl) | (rw [if_neg (by omega)]) | skip)
      simp only [Act.put, List.setIfInBounds_toArray, List.set_cons_zero, List.set_cons_succ]
      refine wpAnyH_take (i := 2) (v := ?_) hop4_5_2 (by kernel_rfl) (by kernel_rfl) (by kernel_rfl) (fun _ _ _ h => h) (Or.inl ⟨by rfl, ?hyaff4⟩) (by assumption) ?restaff4
      case hyaff4 => (intro w hSw; (try dsimp only at hSw); go_simp; first | (with_reducible rfl) | (rw [if_neg (by omega)]) | skip)
      simp only [Act.put, List.setIfInBounds_toArray, List.set_cons_zero, List.set_cons_succ]
      refine wpAnyH_take (i := 3) (v := ?_) hop4_5_3 (by kernel_rfl) (by kernel_rfl) (by kernel_rfl) (fun _ _ _ h => h) (Or.inl ⟨by rfl, ?hyaff5⟩) (by assumption) ?restaff5
      case hyaff5 => (intro w hSw; (try dsimp only at hSw); go_simp; first | (with_reducible rfl) | (rw [if_neg (by omega)]) | skip)
      simp only [Act.put, List.setIfInBounds_toArray, List.set_cons_zero, List.set_cons_succ]
      refine wpAnyH_take (i := 4) (v := ?_) hop4_5_4 (by kernel_rfl) (by kernel_rfl) (by kernel_rfl) (fun _ _ _ h => h) (Or.inl ⟨by rfl, ?hyaff6⟩) (by assumption) ?restaff6
      case hyaff6 => (intro w hSw; (try dsimp only at hSw); go_simp; first | (with_reducible rfl) | (rw [if_neg (by omega)]) | skip)
      simp only [Act.put, List.setIfInBounds_toArray, List.set_cons_zero, List.set_cons_succ]
      refine wpAnyH_take (i := 5) (v := ?_) hop4_5_5 (by kernel_rfl) (by kernel_rfl) (by kernel_rfl) (fun _ _ _ h => h) (Or.inl ⟨by rfl, ?hyaff7⟩) (by assumption) ?restaff7
      case hyaff7 => (intro w hSw; (try dsimp only at hSw); go_simp; first | (with_reducible rfl) | (rw [if_neg (by omega)]) | skip)
      simp only [Act.put, List.setIfInBounds_toArray, List.set_cons_zero, List.set_cons_succ]
      refine wpAnyH_take (i := 6) (v := ?_) hop4_5_6 (by kernel_rfl) (by kernel_rfl) (by kernel_rfl) (fun _ _ _ h => h) (Or.inl ⟨by rfl, ?hyaff8⟩) (by assumption) ?restaff8
      case hyaff8 => (intro w hSw; (try dsimp only at hSw); go_simp; first | (with_reducible rfl) | (rw [if_neg (by omega)]) | skip)
      simp only [Act.put, List.setIfInBounds_toArray, List.set_cons_zero, List.set_cons_succ]
      refine wpAnyH_take (i := 7) (v := ?_) hop4_5_7 (by kernel_rfl) (by kernel_rfl) (by kernel_rfl) (fun _ _ _ h => h) (Or.inl ⟨by rfl, ?hyaff9⟩) (by assumption) ?restaff9
      case hyaff9 => (intro w hSw; (try dsimp only at hSw); go_simp; first | (with_reducible rfl) | (rw [if_neg (by omega)]) | skip)
      simp only [Act.put, List.setIfInBounds_toArray, List.set_cons_zero, List.set_cons_succ]
      refine wpAnyH_take (i := 8) (v := ?_) hop4_5_8 (by kernel_rfl) (by kernel_rfl) (by kernel_rfl) (fun _ _ _ h => h) (Or.inl ⟨by rfl, ?hyaff10⟩) (by assumption) ?restaff10
      case hyaff10 => (intro w hSw; (try dsimp only at hSw); go_simp; first | (with_reducible rfl) | (rw [if_neg (by omega)]) | skip)
      simp only [Act.put, List.setIfInBounds_toArray, List.set_cons_zero, List.set_cons_succ]
      refine wpAnyH_take (i := 9) (v := ?_) hop4_5_9 (by kernel_rfl) (by kernel_rfl) (by kernel_rfl) (fun _ _ _ h => h) (Or.inl ⟨by rfl, ?hyaff11⟩) (by assumption) ?restaff11
      case hyaff11 => (intro w hSw; (try dsimp only at hSw); go_simp; first | (with_reducible rfl) | (rw [if_neg (by omega)]) | skip)
      simp only [Act.put, List.setIfInBounds_toArray, List.set_cons_zero, List.set_cons_succ]
      refine wpAnyH_take (i := 10) (v := ?_) hop4_5_10 (by kernel_rfl) (by kernel_rfl) (by kernel_rfl) (fun _ _ _ h => h) (Or.inl ⟨by rfl, ?hyaff12⟩) (by assumption) ?restaff12
      case hyaff12 => (intro w hSw; (try dsimp only at hSw); go_simp; first | (with_reducible rfl) | (rw [if_neg (by omega)]) | skip)
      simp only [Act.put, List.setIfInBounds_toArray, List.set_cons_zero, List.set_cons_succ]
      refine wpAnyH_take (i := 11) (v := ?_) hop4_5_11 (by kernel_rfl) (by kernel_rfl) (by kernel_rfl) (fun _ _ _ h => h) (Or.inl ⟨by rfl, ?hyaff13⟩) (by assumption) ?restaff13
      case hyaff13 => (intro w hSw; (try dsimp only at hSw); go_simp; first | (with_reducible rfl) | (rw [if_neg (by omega)]) | skip)
      simp only [Act.put, List.setIfInBounds_toArray, List.set_cons_zero, List.set_cons_succ]
      refine wpAnyH_ready (rs := [12]) (by kernel_rfl) (by simp) ?_
      refine AllReadyH.cons hop4_5_12 (fun K hK => ?_) AllReadyH.nil
      go_simp
      go_at_call 23; (with_reducible refine (HRF.out _).mono ?_); rintro e w1 ⟨rfl, hb1⟩
      refine hK.out _ _ ?_ (fun hHeld => ?_)
      · (try dsimp only); exact keepS HC.out (hHeld.1.trans (hb1.mono hHeld.1.size))
      clear hK K
      try simp only [Act.put, List.setIfInBounds_toArray, List.set_cons_zero, List.set_cons_succ]
      refine wpAnyH_take (i := 13) (v := ?_) hop4_5_13 (by kernel_rfl) (by kernel_rfl) (by kernel_rfl) (fun _ _ _ h => h) (Or.inl ⟨by rfl, ?hyaff14⟩) (by assumption) ?restaff14
      case hyaff14 => (intro w hSw; (try dsimp only at hSw); go_simp; first | (with_reducible rfl) | (rw [if_neg (by omega)]) | skip)
      simp only [Act.put, List.setIfInBounds_toArray, List.set_cons_zero, List.set_cons_succ]
      refine wpAnyH_take (i := 14) (v := undef) hop4_5_14 (by kernel_rfl) (by kernel_rfl) (by kernel_rfl) (fun _ _ _ h => h) (Or.inr ⟨by rfl, rfl⟩) (by assumption) ?_
      simp only [Act.put, List.setIfInBounds_toArray, List.set_cons_zero, List.set_cons_succ]
      refine wpAnyH_take (i := 15) (v := undef) hop4_5_15 (by kernel_rfl) (by kernel_rfl) (by kernel_rfl) (fun _ _ _ h => h) (Or.inr ⟨by rfl, rfl⟩) (by assumption) ?_
      simp only [Act.put, List.setIfInBounds_toArray, List.set_cons_zero, List.set_cons_succ]
      refine wpAnyH_take (i := 16) (v := undef) hop4_5_16 (by kernel_rfl) (by kernel_rfl) (by kernel_rfl) (fun _ _ _ h => h) (Or.inr ⟨by rfl, rfl⟩) (by assumption) ?_
      simp only [Act.put, List.setIfInBounds_toArray, List.set_cons_zero, List.set_cons_succ]
      refine wpAnyH_take (i := 17) (v := undef) hop4_5_17 (by kernel_rfl) (by kernel_rfl) (by kernel_rfl) (fun _ _ _ h => h) (Or.inr ⟨by rfl, rfl⟩) (by assumption) ?_
      simp only [Act.put, List.setIfInBounds_toArray, List.set_cons_zero, List.set_cons_succ]
      refine wpAnyH_take (i := 18) (v := undef) hop4_5_18 (by kernel_rfl) (by kernel_rfl) (by kernel_rfl) (fun _ _ _ h => h) (Or.inr ⟨by rfl, rfl⟩) (by assumption) ?_
      simp only [Act.put, List.setIfInBounds_toArray, List.set_cons_zero, List.set_cons_succ]
      refine wpAnyH_take (i := 19) (v := undef) hop4_5_19 (by kernel_rfl) (by kernel_rfl) (by kernel_rfl) (fun _ _ _ h => h) (Or.inr ⟨by rfl, rfl⟩) (by assumption) ?_
      simp only [Act.put, List.setIfInBounds_toArray, List.set_cons_zero, List.set_cons_succ]
      refine wpAnyH_take (i := 20) (v := undef) hop4_5_20 (by kernel_rfl) (by kernel_rfl) (by kernel_rfl) (fun _ _ _ h => h) (Or.inr ⟨by rfl, rfl⟩) (by assumption) ?_
      simp only [Act.put, List.setIfInBounds_toArray, List.set_cons_zero, List.set_cons_succ]
      refine wpAnyH_take (i := 21) (v := undef) hop4_5_21 (by kernel_rfl) (by kernel_rfl) (by kernel_rfl) (fun _ _ _ h => h) (Or.inr ⟨by rfl, rfl⟩) (by assumption) ?_
      simp only [Act.put, List.setIfInBounds_toArray, List.set_cons_zero, List.set_cons_succ]
      refine wpAnyH_take (i := 22) (v := undef) hop4_5_22 (by kernel_rfl) (by kernel_rfl) (by kernel_rfl) (fun _ _ _ h => h) (Or.inr ⟨by rfl, rfl⟩) (by assumption) ?_
      simp only [Act.put, List.setIfInBounds_toArray, List.set_cons_zero, List.set_cons_succ]
      refine wpAnyH_take (i := 23) (v := undef) hop4_5_23 (by kernel_rfl) (by kernel_rfl) (by kernel_rfl) (fun _ _ _ h => h) (Or.inr ⟨by rfl, rfl⟩) (by assumption) ?_
      simp only [Act.put, List.setIfInBounds_toArray, List.set_cons_zero, List.set_cons_succ]
      refine wpAnyH_take (i := 24) (v := undef) hop4_5_24 (by kernel_rfl) (by kernel_rfl) (by kernel_rfl) (fun _ _ _ h => h) (Or.inr ⟨by rfl, rfl⟩) (by assumption) ?_
      simp only [Act.put, List.setIfInBounds_toArray, List.set_cons_zero, List.set_cons_succ]
      refine wpAnyH_take (i := 25) (v := ?_) hop4_5_25 (by kernel_rfl) (by kernel_rfl) (by kernel_rfl) (fun _ _ _ h => h) (Or.inl ⟨by rfl, ?hyaff15⟩) (by assumption) ?restaff15
      case hyaff15 => (intro w hSw; (try dsimp only at hSw); go_simp; first | (with_reducible rfl) | (rw [if_neg (by omega)]) | skip)
      simp only [Act.put, List.setIfInBounds_toArray, List.set_cons_zero, List.set_cons_succ]
      refine wpAnyH_take (i := 26) (v := ?_) hop4_5_26 (by kernel_rfl) (by kernel_rfl) (by kernel_rfl) (fun _ _ _ h => h) (Or.inl ⟨by rfl, ?hyaff16⟩) (by assumption) ?restaff16
      case hyaff16 => (intro w hSw; (try dsimp only at hSw); go_simp; first | (with_reducible rfl) | (rw [if_neg (by omega)]) | skip)
      simp only [Act.put, List.setIfInBounds_toArray, List.set_cons_zero, List.set_cons_succ]
      refine wpAnyH_take (i := 27) (v := ?_) hop4_5_27 (by kernel_rfl) (by kernel_rfl) (by kernel_rfl) (fun _ _ _ h => h) (Or.inl ⟨by rfl, ?hyaff17⟩) (by assumption) ?restaff17
      case hyaff17 => (intro w hSw; (try dsimp only at hSw); go_simp; first | (with_reducible rfl) | (rw [if_neg (by omega)]) | skip)
      simp only [Act.put, List.setIfInBounds_toArray, List.set_cons_zero, List.set_cons_succ]
      refine wpAnyH_done (by kernel_rfl) ?_ _
      refine NoPanic.normal ?_
      exact HQ.out _ _ _ _ _ _ _ _ _ _ _ _ _ _ _ _ _ _ _ _ _ _ _ _ _ _ _ hHeld.1
    | true =>
      cases tm with
      | true =>
        have e1 : bl = (lb == 0) := by rw [← HBL.out]; simp
        have e2 : bt = true := by rw [← HBT.out]; simp
        subst e1 e2
        refine wp_region_noPanic ?_
        refine wp_region_held_drew (S := (fun W => Below wb.heap.size wb W ∧ W.cell? ⟨X, 0, none⟩ = some (.int .u8 vv) ∧ W.cell? ⟨X, 1, none⟩ = some (.string p) ∧ W.cell? ⟨X, 2, none⟩ = some (.string r) ∧ W.cell? ⟨X, 3, none⟩ = some (.bool false) ∧ W.cell? ⟨X, 4, none⟩ = some (.int .u32 la) ∧ W.cell? ⟨X, 5, none⟩ = some (.int .u32 lb) ∧ W.cell? ⟨X, 6, none⟩ = some (.int .u8 tv) ∧ W.cell? ⟨X, 7, none⟩ = some (.bool true) ∧ W.cell? ⟨X, 8, none⟩ = some (.int .u32 ta) ∧ W.cell? ⟨X, 9, none⟩ = some (.int .u32 tb) ∧ W.cell? ⟨X, 10, none⟩ = some (.int .u8 gv) ∧ W.cell? ⟨X, 11, none⟩ = some (.bool gm) ∧ W.cell? ⟨Y, 0, none⟩ = some (.string s) ∧ W.cell? ⟨Y, 1, none⟩ = some (.string u) ∧ W.cell? ⟨g5, 0, none⟩ = some (.slice A0 (bytesOf p).length c0) ∧ W.cell? ⟨g5, 1, none⟩ = some (.slice A1 (bytesOf r).length c1) ∧ W.cell? ⟨g6, 0, none⟩ = some (.bool false) ∧ W.cell? ⟨g6, 1, none⟩ = some (.int .u32 la) ∧ W.cell? ⟨g6, 2, none⟩ = some (.int .u32 lb) ∧ W.cell? ⟨g7, 0, none⟩ = some (.int .u8 tv) ∧ W.cell? ⟨g7, 1, none⟩ = some (.bool true) ∧ W.cell? ⟨g7, 2, none⟩ = some (.int .u32 ta) ∧ W.cell? ⟨g7, 3, none⟩ = some (.int .u32 tb) ∧ W.cell? ⟨g8, 0, none⟩ = some (.int .u8 gv) ∧ W.cell? ⟨g8, 1, none⟩ = some (.bool gm))) (by kernel_rfl) ?hSaftt1 (fun hHeld => ?goaftt1)
        case hSaftt1 => exact keepS HC.out HB.out.drew
        refine wpAnyH_take (i := 0) (v := ?_) hop4_5_0 (by kernel_rfl) (by kernel_rfl) (by kernel_rfl) (fun _ _ _ h => h) (Or.inl ⟨by rfl, ?hyaftt2⟩) (by assumption) ?restaftt2
        case hyaftt2 => (intro w hSw; (try dsimp only at hSw); go_simp; first | (with_reducible rfl) | (rw [if_neg (by omega)]) | skip)
        simp only [Act.put, List.setIfInBounds_toArray, List.set_cons_zero, List.set_cons_succ]
        refine wpAnyH_take (i := 1) (v := ?_) hop4_5_1 (by kernel_rfl) (by kernel_rfl) (by kernel_rfl) (fun _ _ _ h => h) (Or.inl ⟨by rfl, ?hyaftt3⟩) (by assumption) ?restaftt3
        case hyaftt3 => (intro w hSw; (try dsimp only at hSw); go_simp; first | (with_reducible rfl) | (rw [if_neg (by omega)]) | skip)
        simp only [Act.put, List.setIfInBounds_toArray, List.set_cons_zero, List.set_cons_succ]
        refine wpAnyH_take (i := 2) (v := ?_) hop4_5_2 (by kernel_rfl) (by kernel_rfl) (by kernel_rfl) (fun _ _ _ h => h) (Or.inl ⟨by rfl, ?hyaftt4⟩) (by assumption) ?restaftt4
        case hyaftt4 => (intro w hSw; (try dsimp only at hSw); go_simp; first | (with_reducible rfl) | (rw [if_neg (by omega)]) | skip)
        simp only [Act.put, List.setIfInBounds_toArray, List.set_cons_zero, List.set_cons_succ]
        refine wpAnyH_take (i := 3) (v := ?_) hop4_5_3 (by kernel_rfl) (by kernel_rfl) (by kernel_rfl) (fun _ _ _ h => h) (Or.inl ⟨by rfl, ?hyaftt5⟩) (by assumption) ?restaftt5
        case hyaftt5 => (intro w hSw; (try dsimp only at hSw); go_simp; first | (with_reducible rfl) | (rw [if_neg (by omega)]) | skip)
        simp only [Act.put, List.setIfInBounds_toArray, List.set_cons_zero, List.set_cons_succ]
        refine wpAnyH_take (i := 4) (v := ?_) hop4_5_4 (by kernel_rfl) (by kernel_rfl) (by kernel_rfl) (fun _ _ _ h => h) (Or.inl ⟨by rfl, ?hyaftt6⟩) (by assumption) ?restaftt6
        case hyaftt6 => (intro w hSw; (try dsimp only at hSw); go_simp; first | (with_reducible rfl) | (rw [if_neg (by omega)]) | skip)
        simp only [Act.put, List.setIfInBounds_toArray, List.set_cons_zero, List.set_cons_succ]
        refine wpAnyH_take (i := 5) (v := ?_) hop4_5_5 (by kernel_rfl) (by kernel_rfl) (by kernel_rfl) (fun _ _ _ h => h) (Or.inl ⟨by rfl, ?hyaftt7⟩) (by assumption) ?restaftt7
        case hyaftt7 => (intro w hSw; (try dsimp only at hSw); go_simp; first | (with_reducible rfl) | (rw [if_neg (by omega)]) | skip)
        simp only [Act.put, List.setIfInBounds_toArray, List.set_cons_zero, List.set_cons_succ]
        refine wpAnyH_take (i := 6) (v := ?_) hop4_5_6 (by kernel_rfl) (by kernel_rfl) (by kernel_rfl) (fun _ _ _ h => h) (Or.inl ⟨by rfl, ?hyaftt8⟩) (by assumption) ?restaftt8
        case hyaftt8 => (intro w hSw; (try dsimp only at hSw); go_simp; first | (with_reducible rfl) | (rw [if_neg (by omega)]) | skip)
        simp only [Act.put, List.setIfInBounds_toArray, List.set_cons_zero, List.set_cons_succ]
        refine wpAnyH_take (i := 7) (v := ?_) hop4_5_7 (by kernel_rfl) (by kernel_rfl) (by kernel_rfl) (fun _ _ _ h => h) (Or.inl ⟨by rfl, ?hyaftt9⟩) (by assumption) ?restaftt9
        case hyaftt9 => (intro w hSw; (try dsimp only at hSw); go_simp; first | (with_reducible rfl) | (rw [if_neg (by omega)]) | skip)
        simp only [Act.put, List.setIfInBounds_toArray, List.set_cons_zero, List.set_cons_succ]
        refine wpAnyH_take (i := 8) (v := ?_) hop4_5_8 (by kernel_rfl) (by kernel_rfl) (by kernel_rfl) (fun _ _ _ h => h) (Or.inl ⟨by rfl, ?hyaftt10⟩) (by assumption) ?restaftt10
        case hyaftt10 => (intro w hSw; (try dsimp only at hSw); go_simp; first | (with_reducible rfl) | (rw [if_neg (by omega)]) | skip)
        simp only [Act.put, List.setIfInBounds_toArray, List.set_cons_zero, List.set_cons_succ]
        refine wpAnyH_take (i := 9) (v := ?_) hop4_5_9 (by kernel_rfl) (by kernel_rfl) (by kernel_rfl) (fun _ _ _ h => h) (Or.inl ⟨by rfl, ?hyaftt11⟩) (by assumption) ?restaftt11
        case hyaftt11 => (intro w hSw; (try dsimp only at hSw); go_simp; first | (with_reducible rfl) | (rw [if_neg (by omega)]) | skip)
        simp only [Act.put, List.setIfInBounds_toArray, List.set_cons_zero, List.set_cons_succ]
        refine wpAnyH_take (i := 10) (v := ?_) hop4_5_10 (by kernel_rfl) (by kernel_rfl) (by kernel_rfl) (fun _ _ _ h => h) (Or.inl ⟨by rfl, ?hyaftt12⟩) (by assumption) ?restaftt12
        case hyaftt12 => (intro w hSw; (try dsimp only at hSw); go_simp; first | (with_reducible rfl) | (rw [if_neg (by omega)]) | skip)
        simp only [Act.put, List.setIfInBounds_toArray, List.set_cons_zero, List.set_cons_succ]
        refine wpAnyH_take (i := 11) (v := ?_) hop4_5_11 (by kernel_rfl) (by kernel_rfl) (by kernel_rfl) (fun _ _ _ h => h) (Or.inl ⟨by rfl, ?hyaftt13⟩) (by assumption) ?restaftt13
        case hyaftt13 => (intro w hSw; (try dsimp only at hSw); go_simp; first | (with_reducible rfl) | (rw [if_neg (by omega)]) | skip)
        simp only [Act.put, List.setIfInBounds_toArray, List.set_cons_zero, List.set_cons_succ]
        refine wpAnyH_ready (rs := [12]) (by kernel_rfl) (by simp) ?_
        refine AllReadyH.cons hop4_5_12 (fun K hK => ?_) AllReadyH.nil
        go_simp
        go_at_call 23; (with_reducible refine (HRF.out _).mono ?_); rintro e w1 ⟨rfl, hb1⟩
        refine hK.out _ _ ?_ (fun hHeld => ?_)
        · (try dsimp only); exact keepS HC.out (hHeld.1.trans (hb1.mono hHeld.1.size))
        clear hK K
        try simp only [Act.put, List.setIfInBounds_toArray, List.set_cons_zero, List.set_cons_succ]
        refine wpAnyH_take (i := 13) (v := ?_) hop4_5_13 (by kernel_rfl) (by kernel_rfl) (by kernel_rfl) (fun _ _ _ h => h) (Or.inl ⟨by rfl, ?hyaftt14⟩) (by assumption) ?restaftt14
        case hyaftt14 => (intro w hSw; (try dsimp only at hSw); go_simp; first | (with_reducible rfl) | (rw [if_neg (by omega)]) | skip)
        simp only [Act.put, List.setIfInBounds_toArray, List.set_cons_zero, List.set_cons_succ]
        refine wpAnyH_take (i := 14) (v := ?_) hop4_5_14 (by kernel_rfl) (by kernel_rfl) (by kernel_rfl) (fun _ _ _ h => h) (Or.inl ⟨by rfl, ?hyaftt15⟩) (by assumption) ?restaftt15
        case hyaftt15 => (intro w hSw; (try dsimp only at hSw); go_simp; first | (with_reducible rfl) | (rw [if_neg (by omega)]) | skip)
        simp only [Act.put, List.setIfInBounds_toArray, List.set_cons_zero, List.set_cons_succ]
        refine wpAnyH_take (i := 15) (v := ?_) hop4_5_15 (by kernel_rfl) (by kernel_rfl) (by kernel_rfl) (fun _ _ _ h => h) (Or.inl ⟨by rfl, ?hyaftt16⟩) (by assumption) ?restaftt16
        case hyaftt16 => (intro w hSw; (try dsimp only at hSw); go_simp; first | (with_reducible rfl) | (rw [if_neg (by omega)]) | skip)
        simp only [Act.put, List.setIfInBounds_toArray, List.set_cons_zero, List.set_cons_succ]
        refine wpAnyH_take (i := 16) (v := ?_) hop4_5_16 (by kernel_rfl) (by kernel_rfl) (by kernel_rfl) (fun _ _ _ h => h) (Or.inl ⟨by rfl, ?hyaftt17⟩) (by assumption) ?restaftt17
        case hyaftt17 => (intro w hSw; (try dsimp only at hSw); go_simp; first | (with_reducible rfl) | (rw [if_neg (by omega)]) | skip)
        simp only [Act.put, List.setIfInBounds_toArray, List.set_cons_zero, List.set_cons_succ]
        refine wpAnyH_take (i := 17) (v := ?_) hop4_5_17 (by kernel_rfl) (by kernel_rfl) (by kernel_rfl) (fun _ _ _ h => h) (Or.inl ⟨by rfl, ?hyaftt18⟩) (by assumption) ?restaftt18
        case hyaftt18 => (intro w hSw; (try dsimp only at hSw); go_simp; first | (with_reducible rfl) | (rw [if_neg (by omega)]) | skip)
        simp only [Act.put, List.setIfInBounds_toArray, List.set_cons_zero, List.set_cons_succ]
        refine wpAnyH_take (i := 18) (v := ?_) hop4_5_18 (by kernel_rfl) (by kernel_rfl) (by kernel_rfl) (fun _ _ _ h => h) (Or.inl ⟨by rfl, ?hyaftt19⟩) (by assumption) ?restaftt19
        case hyaftt19 => (intro w hSw; (try dsimp only at hSw); go_simp; first | (with_reducible rfl) | (rw [if_neg (by omega)]) | skip)
        simp only [Act.put, List.setIfInBounds_toArray, List.set_cons_zero, List.set_cons_succ]
        refine wpAnyH_take (i := 19) (v := undef) hop4_5_19 (by kernel_rfl) (by kernel_rfl) (by kernel_rfl) (fun _ _ _ h => h) (Or.inr ⟨by rfl, rfl⟩) (by assumption) ?_
        simp only [Act.put, List.setIfInBounds_toArray, List.set_cons_zero, List.set_cons_succ]
        refine wpAnyH_take (i := 20) (v := undef) hop4_5_20 (by kernel_rfl) (by kernel_rfl) (by kernel_rfl) (fun _ _ _ h => h) (Or.inr ⟨by rfl, rfl⟩) (by assumption) ?_
        simp only [Act.put, List.setIfInBounds_toArray, List.set_cons_zero, List.set_cons_succ]
        refine wpAnyH_take (i := 21) (v := undef) hop4_5_21 (by kernel_rfl) (by kernel_rfl) (by kernel_rfl) (fun _ _ _ h => h) (Or.inr ⟨by rfl, rfl⟩) (by assumption) ?_
        simp only [Act.put, List.setIfInBounds_toArray, List.set_cons_zero, List.set_cons_succ]
        refine wpAnyH_take (i := 22) (v := undef) hop4_5_22 (by kernel_rfl) (by kernel_rfl) (by kernel_rfl) (fun _ _ _ h => h) (Or.inr ⟨by rfl, rfl⟩) (by assumption) ?_
        simp only [Act.put, List.setIfInBounds_toArray, List.set_cons_zero, List.set_cons_succ]
        refine wpAnyH_take (i := 23) (v := undef) hop4_5_23 (by kernel_rfl) (by kernel_rfl) (by kernel_rfl) (fun _ _ _ h => h) (Or.inr ⟨by rfl, rfl⟩) (by assumption) ?_
        simp only [Act.put, List.setIfInBounds_toArray, List.set_cons_zero, List.set_cons_succ]
        refine wpAnyH_take (i := 24) (v := ?_) hop4_5_24 (by kernel_rfl) (by kernel_rfl) (by kernel_rfl) (fun _ _ _ h => h) (Or.inl ⟨by rfl, ?hyaftt20⟩) (by assumption) ?restaftt20
        case hyaftt20 => (intro w hSw; (try dsimp only at hSw); go_simp; first | (with_reducible rfl) | (rw [if_neg (by omega)]) | skip)
        simp only [Act.put, List.setIfInBounds_toArray, List.set_cons_zero, List.set_cons_succ]
        refine wpAnyH_take (i := 25) (v := ?_) hop4_5_25 (by kernel_rfl) (by kernel_rfl) (by kernel_rfl) (fun _ _ _ h => h) (Or.inl ⟨by rfl, ?hyaftt21⟩) (by assumption) ?restaftt21
        case hyaftt21 => (intro w hSw; (try dsimp only at hSw); go_simp; first | (with_reducible rfl) | (rw [if_neg (by omega)]) | skip)
        simp only [Act.put, List.setIfInBounds_toArray, List.set_cons_zero, List.set_cons_succ]
        refine wpAnyH_take (i := 26) (v := ?_) hop4_5_26 (by kernel_rfl) (by kernel_rfl) (by kernel_rfl) (fun _ _ _ h => h) (Or.inl ⟨by rfl, ?hyaftt22⟩) (by assumption) ?restaftt22
        case hyaftt22 => (intro w hSw; (try dsimp only at hSw); go_simp; first | (with_reducible rfl) | (rw [if_neg (by omega)]) | skip)
        simp only [Act.put, List.setIfInBounds_toArray, List.set_cons_zero, List.set_cons_succ]
        refine wpAnyH_take (i := 27) (v := ?_) hop4_5_27 (by kernel_rfl) (by kernel_rfl) (by kernel_rfl) (fun _ _ _ h => h) (Or.inl ⟨by rfl, ?hyaftt23⟩) (by assumption) ?restaftt23
        case hyaftt23 => (intro w hSw; (try dsimp only at hSw); go_simp; first | (with_reducible rfl) | (rw [if_neg (by omega)]) | skip)
        simp only [Act.put, List.setIfInBounds_toArray, List.set_cons_zero, List.set_cons_succ]
        refine wpAnyH_done (by kernel_rfl) ?_ _
        refine NoPanic.normal ?_
        exact HQ.out _ _ _ _ _ _ _ _ _ _ _ _ _ _ _ _ _ _ _ _ _ _ _ _ _ _ _ hHeld.1
      | false =>
        have e1 : bl = (lb == 0) := by rw [← HBL.out]; simp
        have e2 : bt = (tb == 0) := by rw [← HBT.out]; simp
        subst e1 e2
        refine wp_region_noPanic ?_
        refine wp_region_held_drew (S := (fun W => Below wb.heap.size wb W ∧ W.cell? ⟨X, 0, none⟩ = some (.int .u8 vv) ∧ W.cell? ⟨X, 1, none⟩ = some (.string p) ∧ W.cell? ⟨X, 2, none⟩ = some (.string r) ∧ W.cell? ⟨X, 3, none⟩ = some (.bool false) ∧ W.cell? ⟨X, 4, none⟩ = some (.int .u32 la) ∧ W.cell? ⟨X, 5, none⟩ = some (.int .u32 lb) ∧ W.cell? ⟨X, 6, none⟩ = some (.int .u8 tv) ∧ W.cell? ⟨X, 7, none⟩ = some (.bool false) ∧ W.cell? ⟨X, 8, none⟩ = some (.int .u32 ta) ∧ W.cell? ⟨X, 9, none⟩ = some (.int .u32 tb) ∧ W.cell? ⟨X, 10, none⟩ = some (.int .u8 gv) ∧ W.cell? ⟨X, 11, none⟩ = some (.bool gm) ∧ W.cell? ⟨Y, 0, none⟩ = some (.string s) ∧ W.cell? ⟨Y, 1, none⟩ = some (.string u) ∧ W.cell? ⟨g5, 0, none⟩ = some (.slice A0 (bytesOf p).length c0) ∧ W.cell? ⟨g5, 1, none⟩ = some (.slice A1 (bytesOf r).length c1) ∧ W.cell? ⟨g6, 0, none⟩ = some (.bool false) ∧ W.cell? ⟨g6, 1, none⟩ = some (.int .u32 la) ∧ W.cell? ⟨g6, 2, none⟩ = some (.int .u32 lb) ∧ W.cell? ⟨g7, 0, none⟩ = some (.int .u8 tv) ∧ W.cell? ⟨g7, 1, none⟩ = some (.bool false) ∧ W.cell? ⟨g7, 2, none⟩ = some (.int .u32 ta) ∧ W.cell? ⟨g7, 3, none⟩ = some (.int .u32 tb) ∧ W.cell? ⟨g8, 0, none⟩ = some (.int .u8 gv) ∧ W.cell? ⟨g8, 1, none⟩ = some (.bool gm))) (by kernel_rfl) ?hSaftf1 (fun hHeld => ?goaftf1)
        case hSaftf1 => exact keepS HC.out HB.out.drew
        refine wpAnyH_take (i := 0) (v := ?_) hop4_5_0 (by kernel_rfl) (by kernel_rfl) (by kernel_rfl) (fun _ _ _ h => h) (Or.inl ⟨by rfl, ?hyaftf2⟩) (by assumption) ?restaftf2
        case hyaftf2 => (intro w hSw; (try dsimp only at hSw); go_simp; first | (with_reducible rfl) | (rw [if_neg (by omega)]) | skip)
        simp only [Act.put, List.setIfInBounds_toArray, List.set_cons_zero, List.set_cons_succ]
        refine wpAnyH_take (i := 1) (v := ?_) hop4_5_1 (by kernel_rfl) (by kernel_rfl) (by kernel_rfl) (fun _ _ _ h => h) (Or.inl ⟨by rfl, ?hyaftf3⟩) (by assumption) ?restaftf3
        case hyaftf3 => (intro w hSw; (try dsimp only at hSw); go_simp; first | (with_reducible rfl) | (rw [if_neg (by omega)]) | skip)
        simp only [Act.put, List.setIfInBounds_toArray, List.set_cons_zero, List.set_cons_succ]
        refine wpAnyH_take (i := 2) (v := ?_) hop4_5_2 (by kernel_rfl) (by kernel_rfl) (by kernel_rfl) (fun _ _ _ h => h) (Or.inl ⟨by rfl, ?hyaftf4⟩) (by assumption) ?restaftf4
        case hyaftf4 => (intro w hSw; (try dsimp only at hSw); go_simp; first | (with_reducible rfl) | (rw [if_neg (by omega)]) | skip)
        simp only [Act.put, List.setIfInBounds_toArray, List.set_cons_zero, List.set_cons_succ]
        refine wpAnyH_take (i := 3) (v := ?_) hop4_5_3 (by kernel_rfl) (by kernel_rfl) (by kernel_rfl) (fun _ _ _ h => h) (Or.inl ⟨by rfl, ?hyaftf5⟩) (by assumption) ?restaftf5
        case hyaftf5 => (intro w hSw; (try dsimp only at hSw); go_simp; first | (with_reducible rfl) | (rw [if_neg (by omega)]) | skip)
        simp only [Act.put, List.setIfInBounds_toArray, List.set_cons_zero, List.set_cons_succ]
        refine wpAnyH_take (i := 4) (v := ?_) hop4_5_4 (by kernel_rfl) (by kernel_rfl) (by kernel_rfl) (fun _ _ _ h => h) (Or.inl ⟨by rfl, ?hyaftf6⟩) (by assumption) ?restaftf6
        case hyaftf6 => (intro w hSw; (try dsimp only at hSw); go_simp; first | (with_reducible rfl) | (rw [if_neg (by omega)]) | skip)
        simp only [Act.put, List.setIfInBounds_toArray, List.set_cons_zero, List.set_cons_succ]
        refine wpAnyH_take (i := 5) (v := ?_) hop4_5_5 (by kernel_rfl) (by kernel_rfl) (by kernel_rfl) (fun _ _ _ h => h) (Or.inl ⟨by rfl, ?hyaftf7⟩) (by assumption) ?restaftf7
        case hyaftf7 => (intro w hSw; (try dsimp only at hSw); go_simp; first | (with_reducible rfl) | (rw [if_neg (by omega)]) | skip)
        simp only [Act.put, List.setIfInBounds_toArray, List.set_cons_zero, List.set_cons_succ]
        refine wpAnyH_take (i := 6) (v := ?_) hop4_5_6 (by kernel_rfl) (by kernel_rfl) (by kernel_rfl) (fun _ _ _ h => h) (Or.inl ⟨by rfl, ?hyaftf8⟩) (by assumption) ?restaftf8
        case hyaftf8 => (intro w hSw; (try dsimp only at hSw); go_simp; first | (with_reducible rfl) | (rw [if_neg (by omega)]) | skip)
        simp only [Act.put, List.setIfInBounds_toArray, List.set_cons_zero, List.set_cons_succ]
        refine wpAnyH_take (i := 7) (v := ?_) hop4_5_7 (by kernel_rfl) (by kernel_rfl) (by kernel_rfl) (fun _ _ _ h => h) (Or.inl ⟨by rfl, ?hyaftf9⟩) (by assumption) ?restaftf9
        case hyaftf9 => (intro w hSw; (try dsimp only at hSw); go_simp; first | (with_reducible rfl) | (rw [if_neg (by omega)]) | skip)
        simp only [Act.put, List.setIfInBounds_toArray, List.set_cons_zero, List.set_cons_succ]
        refine wpAnyH_take (i := 8) (v := ?_) hop4_5_8 (by kernel_rfl) (by kernel_rfl) (by kernel_rfl) (fun _ _ _ h => h) (Or.inl ⟨by rfl, ?hyaftf10⟩) (by assumption) ?restaftf10
        case hyaftf10 => (intro w hSw; (try dsimp only at hSw); go_simp; first | (with_reducible rfl) | (rw [if_neg (by omega)]) | skip)
        simp only [Act.put, List.setIfInBounds_toArray, List.set_cons_zero, List.set_cons_succ]
        refine wpAnyH_take (i := 9) (v := ?_) hop4_5_9 (by kernel_rfl) (by kernel_rfl) (by kernel_rfl) (fun _ _ _ h => h) (Or.inl ⟨by rfl, ?hyaftf11⟩) (by assumption) ?restaftf11
        case hyaftf11 => (intro w hSw; (try dsimp only at hSw); go_simp; first | (with_reducible rfl) | (rw [if_neg (by omega)]) | skip)
        simp only [Act.put, List.setIfInBounds_toArray, List.set_cons_zero, List.set_cons_succ]
        refine wpAnyH_take (i := 10) (v := ?_) hop4_5_10 (by kernel_rfl) (by kernel_rfl) (by kernel_rfl) (fun _ _ _ h => h) (Or.inl ⟨by rfl, ?hyaftf12⟩) (by assumption) ?restaftf12
        case hyaftf12 => (intro w hSw; (try dsimp only at hSw); go_simp; first | (with_reducible rfl) | (rw [if_neg (by omega)]) | skip)
        simp only [Act.put, List.setIfInBounds_toArray, List.set_cons_zero, List.set_cons_succ]
        refine wpAnyH_take (i := 11) (v := ?_) hop4_5_11 (by kernel_rfl) (by kernel_rfl) (by kernel_rfl) (fun _ _ _ h => h) (Or.inl ⟨by rfl, ?hyaftf13⟩) (by assumption) ?restaftf13
        case hyaftf13 => (intro w hSw; (try dsimp only at hSw); go_simp; first | (with_reducible rfl) | (rw [if_neg (by omega)]) | skip)
        simp only [Act.put, List.setIfInBounds_toArray, List.set_cons_zero, List.set_cons_succ]
        refine wpAnyH_ready (rs := [12]) (by kernel_rfl) (by simp) ?_
        refine AllReadyH.cons hop4_5_12 (fun K hK => ?_) AllReadyH.nil
        go_simp
        go_at_call 23; (with_reducible refine (HRF.out _).mono ?_); rintro e w1 ⟨rfl, hb1⟩
        refine hK.out _ _ ?_ (fun hHeld => ?_)
        · (try dsimp only); exact keepS HC.out (hHeld.1.trans (hb1.mono hHeld.1.size))
        clear hK K
        try simp only [Act.put, List.setIfInBounds_toArray, List.set_cons_zero, List.set_cons_succ]
        refine wpAnyH_take (i := 13) (v := ?_) hop4_5_13 (by kernel_rfl) (by kernel_rfl) (by kernel_rfl) (fun _ _ _ h => h) (Or.inl ⟨by rfl, ?hyaftf14⟩) (by assumption) ?restaftf14
        case hyaftf14 => (intro w hSw; (try dsimp only at hSw); go_simp; first | (with_reducible rfl) | (rw [if_neg (by omega)]) | skip)
        simp only [Act.put, List.setIfInBounds_toArray, List.set_cons_zero, List.set_cons_succ]
        refine wpAnyH_take (i := 14) (v := ?_) hop4_5_14 (by kernel_rfl) (by kernel_rfl) (by kernel_rfl) (fun _ _ _ h => h) (Or.inl ⟨by rfl, ?hyaftf15⟩) (by assumption) ?restaftf15
        case hyaftf15 => (intro w hSw; (try dsimp only at hSw); go_simp; first | (with_reducible rfl) | (rw [if_neg (by omega)]) | skip)
        simp only [Act.put, List.setIfInBounds_toArray, List.set_cons_zero, List.set_cons_succ]
        refine wpAnyH_take (i := 15) (v := ?_) hop4_5_15 (by kernel_rfl) (by kernel_rfl) (by kernel_rfl) (fun _ _ _ h => h) (Or.inl ⟨by rfl, ?hyaftf16⟩) (by assumption) ?restaftf16
        case hyaftf16 => (intro w hSw; (try dsimp only at hSw); go_simp; first | (with_reducible rfl) | (rw [if_neg (by omega)]) | skip)
        simp only [Act.put, List.setIfInBounds_toArray, List.set_cons_zero, List.set_cons_succ]
        refine wpAnyH_take (i := 16) (v := ?_) hop4_5_16 (by kernel_rfl) (by kernel_rfl) (by kernel_rfl) (fun _ _ _ h => h) (Or.inl ⟨by rfl, ?hyaftf17⟩) (by assumption) ?restaftf17
        case hyaftf17 => (intro w hSw; (try dsimp only at hSw); go_simp; first | (with_reducible rfl) | (rw [if_neg (by omega)]) | skip)
        simp only [Act.put, List.setIfInBounds_toArray, List.set_cons_zero, List.set_cons_succ]
        refine wpAnyH_take (i := 17) (v := ?_) hop4_5_17 (by kernel_rfl) (by kernel_rfl) (by kernel_rfl) (fun _ _ _ h => h) (Or.inl ⟨by rfl, ?hyaftf18⟩) (by assumption) ?restaftf18
        case hyaftf18 => (intro w hSw; (try dsimp only at hSw); go_simp; first | (with_reducible rfl) | (rw [if_neg (by omega)]) | skip)
        simp only [Act.put, List.setIfInBounds_toArray, List.set_cons_zero, List.set_cons_succ]
        refine wpAnyH_take (i := 18) (v := ?_) hop4_5_18 (by kernel_rfl) (by kernel_rfl) (by kernel_rfl) (fun _ _ _ h => h) (Or.inl ⟨by rfl, ?hyaftf19⟩) (by assumption) ?restaftf19
        case hyaftf19 => (intro w hSw; (try dsimp only at hSw); go_simp; first | (with_reducible rfl) | (rw [if_neg (by omega)]) | skip)
        simp only [Act.put, List.setIfInBounds_toArray, List.set_cons_zero, List.set_cons_succ]
        refine wpAnyH_take (i := 19) (v := ?_) hop4_5_19 (by kernel_rfl) (by kernel_rfl) (by kernel_rfl) (fun _ _ _ h => h) (Or.inl ⟨by rfl, ?hyaftf20⟩) (by assumption) ?restaftf20
        case hyaftf20 => (intro w hSw; (try dsimp only at hSw); go_simp; first | (with_reducible rfl) | (rw [if_neg (by omega)]) | skip)
        simp only [Act.put, List.setIfInBounds_toArray, List.set_cons_zero, List.set_cons_succ]
        refine wpAnyH_take (i := 20) (v := ?_) hop4_5_20 (by kernel_rfl) (by kernel_rfl) (by kernel_rfl) (fun _ _ _ h => h) (Or.inl ⟨by rfl, ?hyaftf21⟩) (by assumption) ?restaftf21
        case hyaftf21 => (intro w hSw; (try dsimp only at hSw); go_simp; first | (with_reducible rfl) | (rw [if_neg (by omega)]) | skip)
        simp only [Act.put, List.setIfInBounds_toArray, List.set_cons_zero, List.set_cons_succ]
        refine wpAnyH_take (i := 21) (v := ?_) hop4_5_21 (by kernel_rfl) (by kernel_rfl) (by kernel_rfl) (fun _ _ _ h => h) (Or.inl ⟨by rfl, ?hyaftf22⟩) (by assumption) ?restaftf22
        case hyaftf22 => (intro w hSw; (try dsimp only at hSw); go_simp; first | (with_reducible rfl) | (rw [if_neg (by omega)]) | skip)
        simp only [Act.put, List.setIfInBounds_toArray, List.set_cons_zero, List.set_cons_succ]
        refine wpAnyH_take (i := 22) (v := ?_) hop4_5_22 (by kernel_rfl) (by kernel_rfl) (by kernel_rfl) (fun _ _ _ h => h) (Or.inl ⟨by rfl, ?hyaftf23⟩) (by assumption) ?restaftf23
        case hyaftf23 => (intro w hSw; (try dsimp only at hSw); go_simp; first | (with_reducible rfl) | (rw [if_neg (by omega)]) | skip)
        simp only [Act.put, List.setIfInBounds_toArray, List.set_cons_zero, List.set_cons_succ]
        refine wpAnyH_take (i := 23) (v := ?_) hop4_5_23 (by kernel_rfl) (by kernel_rfl) (by kernel_rfl) (fun _ _ _ h => h) (Or.inl ⟨by rfl, ?hyaftf24⟩) (by assumption) ?restaftf24
        case hyaftf24 => (intro w hSw; (try dsimp only at hSw); go_simp; first | (with_reducible rfl) | (rw [if_neg (by omega)]) | skip)
        simp only [Act.put, List.setIfInBounds_toArray, List.set_cons_zero, List.set_cons_succ]
        refine wpAnyH_take (i := 24) (v := ?_) hop4_5_24 (by kernel_rfl) (by kernel_rfl) (by kernel_rfl) (fun _ _ _ h => h) (Or.inl ⟨by rfl, ?hyaftf25⟩) (by assumption) ?restaftf25
        case hyaftf25 => (intro w hSw; (try dsimp only at hSw); go_simp; first | (with_reducible rfl) | (rw [if_neg (by omega)]) | skip)
        simp only [Act.put, List.setIfInBounds_toArray, List.set_cons_zero, List.set_cons_succ]
        refine wpAnyH_take (i := 25) (v := ?_) hop4_5_25 (by kernel_rfl) (by kernel_rfl) (by kernel_rfl) (fun _ _ _ h => h) (Or.inl ⟨by rfl, ?hyaftf26⟩) (by assumption) ?restaftf26
        case hyaftf26 => (intro w hSw; (try dsimp only at hSw); go_simp; first | (with_reducible rfl) | (rw [if_neg (by omega)]) | skip)
        simp only [Act.put, List.setIfInBounds_toArray, List.set_cons_zero, List.set_cons_succ]
        refine wpAnyH_take (i := 26) (v := ?_) hop4_5_26 (by kernel_rfl) (by kernel_rfl) (by kernel_rfl) (fun _ _ _ h => h) (Or.inl ⟨by rfl, ?hyaftf27⟩) (by assumption) ?restaftf27
        case hyaftf27 => (intro w hSw; (try dsimp only at hSw); go_simp; first | (with_reducible rfl) | (rw [if_neg (by omega)]) | skip)
        simp only [Act.put, List.setIfInBounds_toArray, List.set_cons_zero, List.set_cons_succ]
        refine wpAnyH_take (i := 27) (v := ?_) hop4_5_27 (by kernel_rfl) (by kernel_rfl) (by kernel_rfl) (fun _ _ _ h => h) (Or.inl ⟨by rfl, ?hyaftf28⟩) (by assumption) ?restaftf28
        case hyaftf28 => (intro w hSw; (try dsimp only at hSw); go_simp; first | (with_reducible rfl) | (rw [if_neg (by omega)]) | skip)
        simp only [Act.put, List.setIfInBounds_toArray, List.set_cons_zero, List.set_cons_succ]
        refine wpAnyH_done (by kernel_rfl) ?_ _
        refine NoPanic.normal ?_
        exact HQ.out _ _ _ _ _ _ _ _ _ _ _ _ _ _ _ _ _ _ _ _ _ _ _ _ _ _ _ hHeld.1
end Go.Proofs.YtiohiiekaofkbaaDoor
