/- The walk of WtypePuts: region 6. -/
import Derived.Test.YtiohiiekaofkbaaDoorZX
namespace Go.Proofs.YtiohiiekaofkbaaDoor
set_option linter.unusedVariables false
set_option linter.unusedSimpArgs false
open Go.RowKit Go.Proofs.YtiohiiekaofkbaaDoor.PWtypePuts Go.Proofs.YtiohiiekaofkbaaDoorW.PrintWords

theorem toList_iff {a b : ByteArray} : bytesOf a = bytesOf b ↔ a.toList = b.toList := by
  constructor
  · intro e; rw [← str_bytes a, e, str_bytes]
  · intro e; rw [ByteArray.toList_eq, ByteArray.toList_eq] at e; rw [bytesOf, bytesOf, e]
set_option maxRecDepth 100000 in
set_option maxHeartbeats 16000000 in
theorem reg6 (Q : Exit → Act → World → Prop) (X Y g5 g6 g7 g8 : Nat) (vv : Int) (p r s u : ByteArray) (lm : Bool) (la lb tv : Int) (tm : Bool) (ta tb gv : Int) (gm : Bool) (A0 A1 : Option Addr) (c0 c1 : Nat) (wb w : World) (bf bl bt : Bool) {t0 t1 t4 t12 t13 t14 t15 t16 t17 t18 t19 t20 t21 t22 t23 t24 t25 t26 t27 t28 t29 t30 t31 t32 t33 t34 t35 t36 t37 t38 t39 t40 t41 t42 t43 t44 t45 t46 t47 t48 t49 t50 t51 t52 t53 t54 t55 t56 t57 t58 t59 t60 t61 t62 t63 t64 t65 t66 t67 t68 t69 t70 t71 t72 t73 t74 t75 t76 t77 t78 t79 t80 t81 t82 t83 t84 t85 t86 t87 t88 t89 t90 t91 t92 t93 t94 t95 t96 t97 t98 t99 t100 t101 t102 t103 t104 t105 t106 t107 t108 t109 t110 t111 t112 t113 t114 t115 t116 t117 t118 t119 t120 t121 t122 t123 t124 t125 t126 t127 t128 t129 t130 t131 t132 t133 t134 t135 t136 t137 t138 t139 t140 t141 t142 t143 t144 t145 t146 t147 t148 t149 t150 t151 t152 t153 t154 t155 t156 t157 t158 t159 t160 t161 t162 t163 t164 t165 t166 t167 t168 t169 t170 t171 t172 t173 t174 t175 t176 t177 t178 t179 t180 t181 t182 t183 t184 t185 t186 t187 t188 t189 t190 t191 t192 t193 t194 t195 t196 t197 t198 t199 t200 t201 t202 t203 t204 : Value} (hC : wb.cell? ⟨X, 0, none⟩ = some (.int .u8 vv) ∧ wb.cell? ⟨X, 1, none⟩ = some (.string p) ∧ wb.cell? ⟨X, 2, none⟩ = some (.string r) ∧ wb.cell? ⟨X, 3, none⟩ = some (.bool lm) ∧ wb.cell? ⟨X, 4, none⟩ = some (.int .u32 la) ∧ wb.cell? ⟨X, 5, none⟩ = some (.int .u32 lb) ∧ wb.cell? ⟨X, 6, none⟩ = some (.int .u8 tv) ∧ wb.cell? ⟨X, 7, none⟩ = some (.bool tm) ∧ wb.cell? ⟨X, 8, none⟩ = some (.int .u32 ta) ∧ wb.cell? ⟨X, 9, none⟩ = some (.int .u32 tb) ∧ wb.cell? ⟨X, 10, none⟩ = some (.int .u8 gv) ∧ wb.cell? ⟨X, 11, none⟩ = some (.bool gm) ∧ wb.cell? ⟨Y, 0, none⟩ = some (.string s) ∧ wb.cell? ⟨Y, 1, none⟩ = some (.string u) ∧ wb.cell? ⟨g5, 0, none⟩ = some (.slice A0 (bytesOf p).length c0) ∧ wb.cell? ⟨g5, 1, none⟩ = some (.slice A1 (bytesOf r).length c1) ∧ wb.cell? ⟨g6, 0, none⟩ = some (.bool lm) ∧ wb.cell? ⟨g6, 1, none⟩ = some (.int .u32 la) ∧ wb.cell? ⟨g6, 2, none⟩ = some (.int .u32 lb) ∧ wb.cell? ⟨g7, 0, none⟩ = some (.int .u8 tv) ∧ wb.cell? ⟨g7, 1, none⟩ = some (.bool tm) ∧ wb.cell? ⟨g7, 2, none⟩ = some (.int .u32 ta) ∧ wb.cell? ⟨g7, 3, none⟩ = some (.int .u32 tb) ∧ wb.cell? ⟨g8, 0, none⟩ = some (.int .u8 gv) ∧ wb.cell? ⟨g8, 1, none⟩ = some (.bool gm)) (hB : Below wb.heap.size wb w) (hl0 : (bytesOf p).length ≤ c0) (hl1 : (bytesOf r).length ≤ c1) (hC0 : CV wb A0 (bytesOf p)) (hC1 : CV wb A1 (bytesOf r)) (hp : p.size ≤ 300) (hr : r.size ≤ 300) (hs : s.size ≤ 300) (hu : u.size ≤ 300) (hbf : (valsB p && valsB r) = bf) (hbl : (lm || lb == 0) = bl) (hbt : (refV tv && (tm || tb == 0)) = bt)
    (hq : ∀ (s85 s86 s87 s88 s89 s90 s91 s92 s93 s94 s95 s96 s97 s98 s99 s100 s101 s102 s103 s104 s105 s106 s107 s108 s109 s110 s111 s112 s113 s114 s115 s116 s117 s118 s119 s120 s121 s122 s123 s124 s125 s126 s127 s128 s129 s130 s131 s132 s133 s134 s135 s136 s137 : Value) (W : World), Below wb.heap.size wb W → Q .normal ({ tmps := #[t0, t1, .pointer (some ⟨X, 0, none⟩), .pointer (some ⟨Y, 0, none⟩), t4, .pointer (some ⟨g5, 0, none⟩), .pointer (some ⟨g6, 0, none⟩), .pointer (some ⟨g7, 0, none⟩), .pointer (some ⟨g8, 0, none⟩), .bool bf, .bool bl, .bool bt, t12, t13, t14, t15, t16, t17, t18, t19, t20, t21, t22, t23, t24, t25, t26, t27, t28, t29, t30, t31, t32, t33, t34, t35, t36, t37, t38, t39, t40, t41, t42, t43, t44, t45, t46, t47, t48, t49, t50, t51, t52, t53, t54, t55, t56, t57, t58, t59, t60, t61, t62, t63, t64, t65, t66, t67, t68, t69, t70, t71, t72, t73, t74, t75, t76, t77, t78, t79, t80, t81, t82, t83, t84, s85, s86, s87, s88, s89, s90, s91, s92, s93, s94, s95, s96, s97, s98, s99, s100, s101, s102, s103, s104, s105, s106, s107, s108, s109, s110, s111, s112, s113, s114, s115, s116, s117, s118, s119, s120, s121, s122, s123, s124, s125, s126, s127, s128, s129, s130, s131, s132, s133, s134, s135, s136, s137, .bool false, t139, t140, t141, t142, t143, t144, t145, t146, t147, t148, t149, t150, t151, t152, t153, t154, t155, t156, t157, t158, t159, t160, t161, t162, t163, t164, t165, t166, t167, t168, t169, t170, t171, t172, t173, t174, t175, t176, t177, t178, t179, t180, t181, t182, t183, t184, t185, t186, t187, t188, t189, t190, t191, t192, t193, t194, t195, t196, t197, t198, t199, t200, t201, t202, t203, t204], defers := [] } : Act) W) :
    (Code.region 6 #[{ dst := some 85, op := Go.Op.load 56 (Go.Operand.tmp 5), type := 56, pos := "law.go:99", after := #[], guard := none },
    { dst := some 86, op := Go.Op.call { callee := Go.Callee.value (Go.Operand.func 24), args := #[Go.Operand.tmp 85], argTypes := #[56] }, type := 4, pos := "law.go:99", after := #[{ on := 0, ground := Go.Ground.data }], guard := none },
    { dst := some 87, op := Go.Op.move (Go.Operand.tmp 9), type := 4, pos := "law.go:99", after := #[], guard := none },
    { dst := some 88, op := Go.Op.binOp Go.BinOp.neq 4 (Go.Operand.tmp 86) (Go.Operand.tmp 87) 4, type := 4, pos := "law.go:99", after := #[{ on := 1, ground := Go.Ground.data }, { on := 2, ground := Go.Ground.data }], guard := none },
    { dst := some 89, op := Go.Op.move (Go.Operand.tmp 88), type := 4, pos := "law.go:99", after := #[{ on := 3, ground := Go.Ground.data }, { on := 1, ground := Go.Ground.chain }], guard := none },
    { dst := some 90, op := Go.Op.load 58 (Go.Operand.tmp 6), type := 58, pos := "law.go:99", after := #[{ on := 4, ground := Go.Ground.guard }], guard := some (4, false) },
    { dst := some 91, op := Go.Op.call { callee := Go.Callee.value (Go.Operand.func 25), args := #[Go.Operand.tmp 90], argTypes := #[58] }, type := 4, pos := "law.go:99", after := #[{ on := 5, ground := Go.Ground.data }, { on := 4, ground := Go.Ground.chain }, { on := 4, ground := Go.Ground.guard }], guard := some (4, false) },
    { dst := some 92, op := Go.Op.move (Go.Operand.tmp 10), type := 4, pos := "law.go:99", after := #[{ on := 4, ground := Go.Ground.guard }], guard := some (4, false) },
    { dst := some 93, op := Go.Op.binOp Go.BinOp.neq 4 (Go.Operand.tmp 91) (Go.Operand.tmp 92) 4, type := 4, pos := "law.go:99", after := #[{ on := 6, ground := Go.Ground.data }, { on := 7, ground := Go.Ground.data }, { on := 4, ground := Go.Ground.guard }], guard := some (4, false) },
    { dst := some 94, op := Go.Op.pick (Go.Operand.tmp 89) (Go.Operand.const (Go.Value.bool true)) (Go.Operand.tmp 93), type := 4, pos := "law.go:99", after := #[{ on := 4, ground := Go.Ground.data }, { on := 8, ground := Go.Ground.data }], guard := none },
    { dst := some 95, op := Go.Op.move (Go.Operand.tmp 94), type := 4, pos := "law.go:99", after := #[{ on := 9, ground := Go.Ground.data }, { on := 6, ground := Go.Ground.chain }], guard := none },
    { dst := some 96, op := Go.Op.load 62 (Go.Operand.tmp 7), type := 62, pos := "law.go:99", after := #[{ on := 10, ground := Go.Ground.guard }], guard := some (10, false) },
    { dst := some 97, op := Go.Op.call { callee := Go.Callee.value (Go.Operand.func 26), args := #[Go.Operand.tmp 96], argTypes := #[62] }, type := 4, pos := "law.go:99", after := #[{ on := 11, ground := Go.Ground.data }, { on := 10, ground := Go.Ground.chain }, { on := 10, ground := Go.Ground.guard }], guard := some (10, false) },
    { dst := some 98, op := Go.Op.move (Go.Operand.tmp 11), type := 4, pos := "law.go:99", after := #[{ on := 10, ground := Go.Ground.guard }], guard := some (10, false) },
    { dst := some 99, op := Go.Op.binOp Go.BinOp.neq 4 (Go.Operand.tmp 97) (Go.Operand.tmp 98) 4, type := 4, pos := "law.go:99", after := #[{ on := 12, ground := Go.Ground.data }, { on := 13, ground := Go.Ground.data }, { on := 10, ground := Go.Ground.guard }], guard := some (10, false) },
    { dst := some 100, op := Go.Op.pick (Go.Operand.tmp 95) (Go.Operand.const (Go.Value.bool true)) (Go.Operand.tmp 99), type := 4, pos := "law.go:99", after := #[{ on := 10, ground := Go.Ground.data }, { on := 14, ground := Go.Ground.data }], guard := none },
    { dst := some 101, op := Go.Op.move (Go.Operand.tmp 100), type := 4, pos := "law.go:99", after := #[{ on := 15, ground := Go.Ground.data }, { on := 12, ground := Go.Ground.chain }], guard := none },
    { dst := some 102, op := Go.Op.load 65 (Go.Operand.tmp 8), type := 65, pos := "law.go:99", after := #[{ on := 16, ground := Go.Ground.guard }], guard := some (16, false) },
    { dst := some 103, op := Go.Op.call { callee := Go.Callee.value (Go.Operand.func 27), args := #[Go.Operand.tmp 102], argTypes := #[65] }, type := 4, pos := "law.go:99", after := #[{ on := 17, ground := Go.Ground.data }, { on := 16, ground := Go.Ground.chain }, { on := 16, ground := Go.Ground.guard }], guard := some (16, false) },
    { dst := some 104, op := Go.Op.fieldAddr 53 (Go.Operand.tmp 2) 4, type := 0, pos := "law.go:99", after := #[{ on := 16, ground := Go.Ground.guard }], guard := some (16, false) },
    { dst := some 105, op := Go.Op.fieldAddr 51 (Go.Operand.tmp 104) 0, type := 0, pos := "law.go:99", after := #[{ on := 19, ground := Go.Ground.data }, { on := 16, ground := Go.Ground.guard }], guard := some (16, false) },
    { dst := some 106, op := Go.Op.load 5 (Go.Operand.tmp 105), type := 5, pos := "law.go:99", after := #[{ on := 20, ground := Go.Ground.data }, { on := 16, ground := Go.Ground.guard }], guard := some (16, false) },
    { dst := some 107, op := Go.Op.call { callee := Go.Callee.value (Go.Operand.func 28), args := #[Go.Operand.tmp 106], argTypes := #[5] }, type := 4, pos := "law.go:99", after := #[{ on := 21, ground := Go.Ground.data }, { on := 18, ground := Go.Ground.chain }, { on := 16, ground := Go.Ground.guard }], guard := some (16, false) },
    { dst := some 108, op := Go.Op.binOp Go.BinOp.neq 4 (Go.Operand.tmp 103) (Go.Operand.tmp 107) 4, type := 4, pos := "law.go:99", after := #[{ on := 18, ground := Go.Ground.data }, { on := 22, ground := Go.Ground.data }, { on := 16, ground := Go.Ground.guard }], guard := some (16, false) },
    { dst := some 109, op := Go.Op.pick (Go.Operand.tmp 101) (Go.Operand.const (Go.Value.bool true)) (Go.Operand.tmp 108), type := 4, pos := "law.go:99", after := #[{ on := 16, ground := Go.Ground.data }, { on := 23, ground := Go.Ground.data }], guard := none },
    { dst := some 110, op := Go.Op.move (Go.Operand.tmp 109), type := 4, pos := "law.go:99", after := #[{ on := 24, ground := Go.Ground.data }, { on := 22, ground := Go.Ground.chain }], guard := none },
    { dst := some 111, op := Go.Op.fieldAddr 53 (Go.Operand.tmp 2) 0, type := 0, pos := "law.go:99", after := #[{ on := 25, ground := Go.Ground.guard }], guard := some (25, false) },
    { dst := some 112, op := Go.Op.load 5 (Go.Operand.tmp 111), type := 5, pos := "law.go:99", after := #[{ on := 26, ground := Go.Ground.data }, { on := 25, ground := Go.Ground.guard }], guard := some (25, false) },
    { dst := some 113, op := Go.Op.call { callee := Go.Callee.value (Go.Operand.func 29), args := #[Go.Operand.tmp 112], argTypes := #[60] }, type := 4, pos := "law.go:99", after := #[{ on := 27, ground := Go.Ground.data }, { on := 25, ground := Go.Ground.chain }, { on := 25, ground := Go.Ground.guard }], guard := some (25, false) },
    { dst := some 114, op := Go.Op.fieldAddr 53 (Go.Operand.tmp 2) 0, type := 0, pos := "law.go:99", after := #[{ on := 25, ground := Go.Ground.guard }], guard := some (25, false) },
    { dst := some 115, op := Go.Op.load 5 (Go.Operand.tmp 114), type := 5, pos := "law.go:99", after := #[{ on := 29, ground := Go.Ground.data }, { on := 25, ground := Go.Ground.guard }], guard := some (25, false) },
    { dst := some 116, op := Go.Op.call { callee := Go.Callee.value (Go.Operand.func 28), args := #[Go.Operand.tmp 115], argTypes := #[5] }, type := 4, pos := "law.go:99", after := #[{ on := 30, ground := Go.Ground.data }, { on := 28, ground := Go.Ground.chain }, { on := 25, ground := Go.Ground.guard }], guard := some (25, false) },
    { dst := some 117, op := Go.Op.binOp Go.BinOp.neq 4 (Go.Operand.tmp 113) (Go.Operand.tmp 116) 4, type := 4, pos := "law.go:99", after := #[{ on := 28, ground := Go.Ground.data }, { on := 31, ground := Go.Ground.data }, { on := 25, ground := Go.Ground.guard }], guard := some (25, false) },
    { dst := some 118, op := Go.Op.pick (Go.Operand.tmp 110) (Go.Operand.const (Go.Value.bool true)) (Go.Operand.tmp 117), type := 4, pos := "law.go:99", after := #[{ on := 25, ground := Go.Ground.data }, { on := 32, ground := Go.Ground.data }], guard := none },
    { dst := some 119, op := Go.Op.move (Go.Operand.tmp 118), type := 4, pos := "law.go:99", after := #[{ on := 33, ground := Go.Ground.data }, { on := 31, ground := Go.Ground.chain }], guard := none },
    { dst := some 120, op := Go.Op.fieldAddr 53 (Go.Operand.tmp 2) 0, type := 0, pos := "law.go:99", after := #[{ on := 34, ground := Go.Ground.guard }], guard := some (34, false) },
    { dst := some 121, op := Go.Op.load 5 (Go.Operand.tmp 120), type := 5, pos := "law.go:99", after := #[{ on := 35, ground := Go.Ground.data }, { on := 34, ground := Go.Ground.guard }], guard := some (34, false) },
    { dst := some 122, op := Go.Op.call { callee := Go.Callee.value (Go.Operand.func 30), args := #[Go.Operand.tmp 121], argTypes := #[60] }, type := 4, pos := "law.go:99", after := #[{ on := 36, ground := Go.Ground.data }, { on := 34, ground := Go.Ground.chain }, { on := 34, ground := Go.Ground.guard }], guard := some (34, false) },
    { dst := some 123, op := Go.Op.fieldAddr 53 (Go.Operand.tmp 2) 0, type := 0, pos := "law.go:99", after := #[{ on := 34, ground := Go.Ground.guard }], guard := some (34, false) },
    { dst := some 124, op := Go.Op.load 5 (Go.Operand.tmp 123), type := 5, pos := "law.go:99", after := #[{ on := 38, ground := Go.Ground.data }, { on := 34, ground := Go.Ground.guard }], guard := some (34, false) },
    { dst := some 125, op := Go.Op.call { callee := Go.Callee.value (Go.Operand.func 23), args := #[Go.Operand.tmp 124], argTypes := #[5] }, type := 4, pos := "law.go:99", after := #[{ on := 39, ground := Go.Ground.data }, { on := 37, ground := Go.Ground.chain }, { on := 34, ground := Go.Ground.guard }], guard := some (34, false) },
    { dst := some 126, op := Go.Op.binOp Go.BinOp.neq 4 (Go.Operand.tmp 122) (Go.Operand.tmp 125) 4, type := 4, pos := "law.go:99", after := #[{ on := 37, ground := Go.Ground.data }, { on := 40, ground := Go.Ground.data }, { on := 34, ground := Go.Ground.guard }], guard := some (34, false) },
    { dst := some 127, op := Go.Op.pick (Go.Operand.tmp 119) (Go.Operand.const (Go.Value.bool true)) (Go.Operand.tmp 126), type := 4, pos := "law.go:99", after := #[{ on := 34, ground := Go.Ground.data }, { on := 41, ground := Go.Ground.data }], guard := none },
    { dst := some 128, op := Go.Op.move (Go.Operand.tmp 127), type := 4, pos := "law.go:99", after := #[{ on := 42, ground := Go.Ground.data }, { on := 40, ground := Go.Ground.chain }], guard := none },
    { dst := some 129, op := Go.Op.load 56 (Go.Operand.tmp 5), type := 56, pos := "law.go:99", after := #[{ on := 43, ground := Go.Ground.guard }], guard := some (43, false) },
    { dst := some 130, op := Go.Op.load 44 (Go.Operand.tmp 3), type := 44, pos := "law.go:99", after := #[{ on := 43, ground := Go.Ground.guard }], guard := some (43, false) },
    { dst := some 131, op := Go.Op.call { callee := Go.Callee.value (Go.Operand.func 18), args := #[Go.Operand.tmp 130], argTypes := #[44] }, type := 56, pos := "law.go:99", after := #[{ on := 45, ground := Go.Ground.data }, { on := 43, ground := Go.Ground.chain }, { on := 43, ground := Go.Ground.guard }], guard := some (43, false) },
    { dst := some 132, op := Go.Op.call { callee := Go.Callee.value (Go.Operand.func 31), args := #[Go.Operand.tmp 129, Go.Operand.tmp 131], argTypes := #[56, 56] }, type := 4, pos := "law.go:99", after := #[{ on := 44, ground := Go.Ground.data }, { on := 46, ground := Go.Ground.data }, { on := 46, ground := Go.Ground.chain }, { on := 43, ground := Go.Ground.guard }], guard := some (43, false) },
    { dst := some 133, op := Go.Op.fieldAddr 53 (Go.Operand.tmp 2) 1, type := 0, pos := "law.go:99", after := #[{ on := 43, ground := Go.Ground.guard }], guard := some (43, false) },
    { dst := some 134, op := Go.Op.load 44 (Go.Operand.tmp 133), type := 44, pos := "law.go:99", after := #[{ on := 48, ground := Go.Ground.data }, { on := 43, ground := Go.Ground.guard }], guard := some (43, false) },
    { dst := some 135, op := Go.Op.load 44 (Go.Operand.tmp 3), type := 44, pos := "law.go:99", after := #[{ on := 43, ground := Go.Ground.guard }], guard := some (43, false) },
    { dst := some 136, op := Go.Op.binOp Go.BinOp.eql 44 (Go.Operand.tmp 134) (Go.Operand.tmp 135) 44, type := 4, pos := "law.go:99", after := #[{ on := 49, ground := Go.Ground.data }, { on := 50, ground := Go.Ground.data }, { on := 43, ground := Go.Ground.guard }], guard := some (43, false) },
    { dst := some 137, op := Go.Op.binOp Go.BinOp.neq 4 (Go.Operand.tmp 132) (Go.Operand.tmp 136) 4, type := 4, pos := "law.go:99", after := #[{ on := 47, ground := Go.Ground.data }, { on := 51, ground := Go.Ground.data }, { on := 43, ground := Go.Ground.guard }], guard := some (43, false) },
    { dst := some 138, op := Go.Op.pick (Go.Operand.tmp 128) (Go.Operand.const (Go.Value.bool true)) (Go.Operand.tmp 137), type := 4, pos := "law.go:99", after := #[{ on := 43, ground := Go.Ground.data }, { on := 52, ground := Go.Ground.data }], guard := none }] true).wp Tryd.prog Q ({ tmps := #[t0, t1, .pointer (some ⟨X, 0, none⟩), .pointer (some ⟨Y, 0, none⟩), t4, .pointer (some ⟨g5, 0, none⟩), .pointer (some ⟨g6, 0, none⟩), .pointer (some ⟨g7, 0, none⟩), .pointer (some ⟨g8, 0, none⟩), .bool bf, .bool bl, .bool bt, t12, t13, t14, t15, t16, t17, t18, t19, t20, t21, t22, t23, t24, t25, t26, t27, t28, t29, t30, t31, t32, t33, t34, t35, t36, t37, t38, t39, t40, t41, t42, t43, t44, t45, t46, t47, t48, t49, t50, t51, t52, t53, t54, t55, t56, t57, t58, t59, t60, t61, t62, t63, t64, t65, t66, t67, t68, t69, t70, t71, t72, t73, t74, t75, t76, t77, t78, t79, t80, t81, t82, t83, t84, t85, t86, t87, t88, t89, t90, t91, t92, t93, t94, t95, t96, t97, t98, t99, t100, t101, t102, t103, t104, t105, t106, t107, t108, t109, t110, t111, t112, t113, t114, t115, t116, t117, t118, t119, t120, t121, t122, t123, t124, t125, t126, t127, t128, t129, t130, t131, t132, t133, t134, t135, t136, t137, t138, t139, t140, t141, t142, t143, t144, t145, t146, t147, t148, t149, t150, t151, t152, t153, t154, t155, t156, t157, t158, t159, t160, t161, t162, t163, t164, t165, t166, t167, t168, t169, t170, t171, t172, t173, t174, t175, t176, t177, t178, t179, t180, t181, t182, t183, t184, t185, t186, t187, t188, t189, t190, t191, t192, t193, t194, t195, t196, t197, t198, t199, t200, t201, t202, t203, t204], defers := [] } : Act) w := by
  have HC := hid hC
  have HB := hid hB
  have HQ := hid hq
  have l0 : (bytesOf p).length ≤ 300 := by rw [bytesOf_length]; exact hp
  have l1 : (bytesOf r).length ≤ 300 := by rw [bytesOf_length]; exact hr
  have HR1 := hid (fun W (h : Below wb.heap.size wb W) => fright_walk A0 A1 c0 c1 (bytesOf p) (bytesOf r) W (Kd.C_below hC0 h) (Kd.C_below hC1 h) (by omega) (by omega))
  rw [show ((bytesOf p).all valV && (bytesOf r).all valV) = bf from hbf] at HR1
  have HR2 := hid (fun W => lright_walk lm la lb W)
  rw [hbl] at HR2
  have HR3 := hid (fun W => tright_walk tv tm ta tb W)
  rw [hbt] at HR3
  obtain ⟨bg, hbg⟩ : ∃ b, valV gv = b := ⟨_, rfl⟩
  obtain ⟨bv, hbv⟩ : ∃ b, valV vv = b := ⟨_, rfl⟩
  obtain ⟨bw, hbw⟩ : ∃ b, refV vv = b := ⟨_, rfl⟩
  have HR4 := hid (fun W => gright_walk gv gm W)
  have HR5 := hid (fun W => rval_walk gv W)
  have HR6 := hid (fun W => vright_calls vv W)
  have HR7 := hid (fun W => rval_walk vv W)
  have HR8 := hid (fun W => vref_calls vv W)
  have HR9 := hid (fun W => rref_walk vv W)
  rw [hbg] at HR4 HR5
  rw [hbv] at HR6 HR7
  rw [hbw] at HR8 HR9
  have HO := hid (fun W => ofunc_walk s u W (by omega) (by omega))
  have HE := hid (fun W A2 A3 c2 c3 (h : Below wb.heap.size wb W) h2 h3 (q2 : (bytesOf s).length ≤ c2) (q3 : (bytesOf u).length ≤ c3) => fsame_walk A0 A1 A2 A3 c0 c1 c2 c3 (bytesOf p) (bytesOf r) (bytesOf s) (bytesOf u) W (Kd.C_below hC0 h) hl0 (Kd.C_below hC1 h) hl1 h2 q2 h3 q3 (by omega) (by omega))
  obtain ⟨bs, hbs2⟩ : ∃ b, decide (p.toList = s.toList ∧ r.toList = u.toList) = b := ⟨_, rfl⟩
  have HBS := hid hbs2
  have hbs : decide (bytesOf p = bytesOf s ∧ bytesOf r = bytesOf u) = bs := by
    rw [← hbs2, decide_eq_decide, toList_iff, toList_iff]
  clear hbs2
  rw [hbs] at HE
  clear hC hB hq hC0 hC1 hbf hbl hbt hbg hbv hbw hbs l0 l1 hl0 hl1
  have hu0 := Tryd.underlying53
  have hu1 := Tryd.underlying56
  have hu2 := Tryd.underlying58
  have hu3 := Tryd.underlying62
  have hu4 := Tryd.underlying65
  have hu5 := Tryd.underlying44
  refine wp_region_noPanic ?_
  refine wp_region_held_drew (S := (fun W => Below wb.heap.size wb W ∧ W.cell? ⟨X, 0, none⟩ = some (.int .u8 vv) ∧ W.cell? ⟨X, 1, none⟩ = some (.string p) ∧ W.cell? ⟨X, 2, none⟩ = some (.string r) ∧ W.cell? ⟨X, 3, none⟩ = some (.bool lm) ∧ W.cell? ⟨X, 4, none⟩ = some (.int .u32 la) ∧ W.cell? ⟨X, 5, none⟩ = some (.int .u32 lb) ∧ W.cell? ⟨X, 6, none⟩ = some (.int .u8 tv) ∧ W.cell? ⟨X, 7, none⟩ = some (.bool tm) ∧ W.cell? ⟨X, 8, none⟩ = some (.int .u32 ta) ∧ W.cell? ⟨X, 9, none⟩ = some (.int .u32 tb) ∧ W.cell? ⟨X, 10, none⟩ = some (.int .u8 gv) ∧ W.cell? ⟨X, 11, none⟩ = some (.bool gm) ∧ W.cell? ⟨Y, 0, none⟩ = some (.string s) ∧ W.cell? ⟨Y, 1, none⟩ = some (.string u) ∧ W.cell? ⟨g5, 0, none⟩ = some (.slice A0 (bytesOf p).length c0) ∧ W.cell? ⟨g5, 1, none⟩ = some (.slice A1 (bytesOf r).length c1) ∧ W.cell? ⟨g6, 0, none⟩ = some (.bool lm) ∧ W.cell? ⟨g6, 1, none⟩ = some (.int .u32 la) ∧ W.cell? ⟨g6, 2, none⟩ = some (.int .u32 lb) ∧ W.cell? ⟨g7, 0, none⟩ = some (.int .u8 tv) ∧ W.cell? ⟨g7, 1, none⟩ = some (.bool tm) ∧ W.cell? ⟨g7, 2, none⟩ = some (.int .u32 ta) ∧ W.cell? ⟨g7, 3, none⟩ = some (.int .u32 tb) ∧ W.cell? ⟨g8, 0, none⟩ = some (.int .u8 gv) ∧ W.cell? ⟨g8, 1, none⟩ = some (.bool gm))) (by kernel_rfl) ?hSa1 (fun hHeld => ?goa1)
  case hSa1 => exact keepS HC.out HB.out.drew
  refine wpAnyH_take (i := 0) (oi := { dst := some 85, op := Go.Op.load 56 (Go.Operand.tmp 5), type := 56, pos := "law.go:99", after := #[], guard := none }) (v := ?_) rfl (by kernel_rfl) (by kernel_rfl) (by kernel_rfl) (fun _ _ _ h => h) (Or.inl ⟨by rfl, ?hya2⟩) (by assumption) ?resta2
  case hya2 => (intro w hSw; (try dsimp only at hSw); go_simp; first | (with_reducible rfl) | (rw [if_neg (by omega)]) | skip)
  simp only [Act.put, List.setIfInBounds_toArray, List.set_cons_zero, List.set_cons_succ]
  refine wpAnyH_take (i := 2) (oi := { dst := some 87, op := Go.Op.move (Go.Operand.tmp 9), type := 4, pos := "law.go:99", after := #[], guard := none }) (v := ?_) rfl (by kernel_rfl) (by kernel_rfl) (by kernel_rfl) (fun _ _ _ h => h) (Or.inl ⟨by rfl, ?hya3⟩) (by assumption) ?resta3
  case hya3 => (intro w hSw; (try dsimp only at hSw); go_simp; first | (with_reducible rfl) | (rw [if_neg (by omega)]) | skip)
  simp only [Act.put, List.setIfInBounds_toArray, List.set_cons_zero, List.set_cons_succ]
  refine wpAnyH_ready (rs := [1]) (by kernel_rfl) (by simp) ?_
  refine AllReadyH.cons (o := { dst := some 86, op := Go.Op.call { callee := Go.Callee.value (Go.Operand.func 24), args := #[Go.Operand.tmp 85], argTypes := #[56] }, type := 4, pos := "law.go:99", after := #[{ on := 0, ground := Go.Ground.data }], guard := none }) rfl (fun K hK => ?_) AllReadyH.nil
  go_simp
  go_at_call 24; (with_reducible refine (HR1.out _ hHeld.1).mono ?_); rintro e w1 ⟨rfl, hb1⟩
  refine hK.out _ _ ?_ (fun hHeld => ?_)
  · (try dsimp only); exact keepS HC.out (hHeld.1.trans (hb1.mono hHeld.1.size))
  clear hK K
  try simp only [Act.put, List.setIfInBounds_toArray, List.set_cons_zero, List.set_cons_succ]
  refine wpAnyH_take (i := 3) (oi := { dst := some 88, op := Go.Op.binOp Go.BinOp.neq 4 (Go.Operand.tmp 86) (Go.Operand.tmp 87) 4, type := 4, pos := "law.go:99", after := #[{ on := 1, ground := Go.Ground.data }, { on := 2, ground := Go.Ground.data }], guard := none }) (v := ?_) rfl (by kernel_rfl) (by kernel_rfl) (by kernel_rfl) (fun _ _ _ h => h) (Or.inl ⟨by rfl, ?hya4⟩) (by assumption) ?resta4
  case hya4 => (intro w hSw; (try dsimp only at hSw); go_simp; first | (with_reducible rfl) | (rw [if_neg (by omega)]) | skip)
  simp only [Act.put, List.setIfInBounds_toArray, List.set_cons_zero, List.set_cons_succ]
  refine wpAnyH_take (i := 4) (oi := { dst := some 89, op := Go.Op.move (Go.Operand.tmp 88), type := 4, pos := "law.go:99", after := #[{ on := 3, ground := Go.Ground.data }, { on := 1, ground := Go.Ground.chain }], guard := none }) (v := ?_) rfl (by kernel_rfl) (by kernel_rfl) (by kernel_rfl) (fun _ _ _ h => h) (Or.inl ⟨by rfl, ?hya5⟩) (by assumption) ?resta5
  case hya5 => (intro w hSw; (try dsimp only at hSw); go_simp; first | (with_reducible rfl) | (rw [if_neg (by omega)]) | skip)
  simp only [Act.put, List.setIfInBounds_toArray, List.set_cons_zero, List.set_cons_succ]
  refine wpAnyH_take (i := 5) (oi := { dst := some 90, op := Go.Op.load 58 (Go.Operand.tmp 6), type := 58, pos := "law.go:99", after := #[{ on := 4, ground := Go.Ground.guard }], guard := some (4, false) }) (v := ?_) rfl (by kernel_rfl) (by kernel_rfl) (by kernel_rfl) (fun _ _ _ h => h) (Or.inl ⟨by rfl, ?hya6⟩) (by assumption) ?resta6
  case hya6 => (intro w hSw; (try dsimp only at hSw); go_simp; first | (with_reducible rfl) | (rw [if_neg (by omega)]) | skip)
  simp only [Act.put, List.setIfInBounds_toArray, List.set_cons_zero, List.set_cons_succ]
  refine wpAnyH_take (i := 7) (oi := { dst := some 92, op := Go.Op.move (Go.Operand.tmp 10), type := 4, pos := "law.go:99", after := #[{ on := 4, ground := Go.Ground.guard }], guard := some (4, false) }) (v := ?_) rfl (by kernel_rfl) (by kernel_rfl) (by kernel_rfl) (fun _ _ _ h => h) (Or.inl ⟨by rfl, ?hya7⟩) (by assumption) ?resta7
  case hya7 => (intro w hSw; (try dsimp only at hSw); go_simp; first | (with_reducible rfl) | (rw [if_neg (by omega)]) | skip)
  simp only [Act.put, List.setIfInBounds_toArray, List.set_cons_zero, List.set_cons_succ]
  refine wpAnyH_ready (rs := [6]) (by kernel_rfl) (by simp) ?_
  refine AllReadyH.cons (o := { dst := some 91, op := Go.Op.call { callee := Go.Callee.value (Go.Operand.func 25), args := #[Go.Operand.tmp 90], argTypes := #[58] }, type := 4, pos := "law.go:99", after := #[{ on := 5, ground := Go.Ground.data }, { on := 4, ground := Go.Ground.chain }, { on := 4, ground := Go.Ground.guard }], guard := some (4, false) }) rfl (fun K hK => ?_) AllReadyH.nil
  go_simp
  go_at_call 25; (with_reducible refine (HR2.out _).mono ?_); rintro e w1 ⟨rfl, hb1⟩
  refine hK.out _ _ ?_ (fun hHeld => ?_)
  · (try dsimp only); exact keepS HC.out (hHeld.1.trans (hb1.mono hHeld.1.size))
  clear hK K
  try simp only [Act.put, List.setIfInBounds_toArray, List.set_cons_zero, List.set_cons_succ]
  refine wpAnyH_take (i := 8) (oi := { dst := some 93, op := Go.Op.binOp Go.BinOp.neq 4 (Go.Operand.tmp 91) (Go.Operand.tmp 92) 4, type := 4, pos := "law.go:99", after := #[{ on := 6, ground := Go.Ground.data }, { on := 7, ground := Go.Ground.data }, { on := 4, ground := Go.Ground.guard }], guard := some (4, false) }) (v := ?_) rfl (by kernel_rfl) (by kernel_rfl) (by kernel_rfl) (fun _ _ _ h => h) (Or.inl ⟨by rfl, ?hya8⟩) (by assumption) ?resta8
  case hya8 => (intro w hSw; (try dsimp only at hSw); go_simp; first | (with_reducible rfl) | (rw [if_neg (by omega)]) | skip)
  simp only [Act.put, List.setIfInBounds_toArray, List.set_cons_zero, List.set_cons_succ]
  refine wpAnyH_take (i := 9) (oi := { dst := some 94, op := Go.Op.pick (Go.Operand.tmp 89) (Go.Operand.const (Go.Value.bool true)) (Go.Operand.tmp 93), type := 4, pos := "law.go:99", after := #[{ on := 4, ground := Go.Ground.data }, { on := 8, ground := Go.Ground.data }], guard := none }) (v := ?_) rfl (by kernel_rfl) (by kernel_rfl) (by kernel_rfl) (fun _ _ _ h => h) (Or.inl ⟨by rfl, ?hya9⟩) (by assumption) ?resta9
  case hya9 => (intro w hSw; (try dsimp only at hSw); go_simp; first | (with_reducible rfl) | (rw [if_neg (by omega)]) | skip)
  simp only [Act.put, List.setIfInBounds_toArray, List.set_cons_zero, List.set_cons_succ]
  refine wpAnyH_take (i := 10) (oi := { dst := some 95, op := Go.Op.move (Go.Operand.tmp 94), type := 4, pos := "law.go:99", after := #[{ on := 9, ground := Go.Ground.data }, { on := 6, ground := Go.Ground.chain }], guard := none }) (v := ?_) rfl (by kernel_rfl) (by kernel_rfl) (by kernel_rfl) (fun _ _ _ h => h) (Or.inl ⟨by rfl, ?hya10⟩) (by assumption) ?resta10
  case hya10 => (intro w hSw; (try dsimp only at hSw); go_simp; first | (with_reducible rfl) | (rw [if_neg (by omega)]) | skip)
  simp only [Act.put, List.setIfInBounds_toArray, List.set_cons_zero, List.set_cons_succ]
  refine wpAnyH_take (i := 11) (oi := { dst := some 96, op := Go.Op.load 62 (Go.Operand.tmp 7), type := 62, pos := "law.go:99", after := #[{ on := 10, ground := Go.Ground.guard }], guard := some (10, false) }) (v := ?_) rfl (by kernel_rfl) (by kernel_rfl) (by kernel_rfl) (fun _ _ _ h => h) (Or.inl ⟨by rfl, ?hya11⟩) (by assumption) ?resta11
  case hya11 => (intro w hSw; (try dsimp only at hSw); go_simp; first | (with_reducible rfl) | (rw [if_neg (by omega)]) | skip)
  simp only [Act.put, List.setIfInBounds_toArray, List.set_cons_zero, List.set_cons_succ]
  refine wpAnyH_take (i := 13) (oi := { dst := some 98, op := Go.Op.move (Go.Operand.tmp 11), type := 4, pos := "law.go:99", after := #[{ on := 10, ground := Go.Ground.guard }], guard := some (10, false) }) (v := ?_) rfl (by kernel_rfl) (by kernel_rfl) (by kernel_rfl) (fun _ _ _ h => h) (Or.inl ⟨by rfl, ?hya12⟩) (by assumption) ?resta12
  case hya12 => (intro w hSw; (try dsimp only at hSw); go_simp; first | (with_reducible rfl) | (rw [if_neg (by omega)]) | skip)
  simp only [Act.put, List.setIfInBounds_toArray, List.set_cons_zero, List.set_cons_succ]
  refine wpAnyH_ready (rs := [12]) (by kernel_rfl) (by simp) ?_
  refine AllReadyH.cons (o := { dst := some 97, op := Go.Op.call { callee := Go.Callee.value (Go.Operand.func 26), args := #[Go.Operand.tmp 96], argTypes := #[62] }, type := 4, pos := "law.go:99", after := #[{ on := 11, ground := Go.Ground.data }, { on := 10, ground := Go.Ground.chain }, { on := 10, ground := Go.Ground.guard }], guard := some (10, false) }) rfl (fun K hK => ?_) AllReadyH.nil
  go_simp
  go_at_call 26; (with_reducible refine (HR3.out _).mono ?_); rintro e w1 ⟨rfl, hb1⟩
  refine hK.out _ _ ?_ (fun hHeld => ?_)
  · (try dsimp only); exact keepS HC.out (hHeld.1.trans (hb1.mono hHeld.1.size))
  clear hK K
  try simp only [Act.put, List.setIfInBounds_toArray, List.set_cons_zero, List.set_cons_succ]
  refine wpAnyH_take (i := 14) (oi := { dst := some 99, op := Go.Op.binOp Go.BinOp.neq 4 (Go.Operand.tmp 97) (Go.Operand.tmp 98) 4, type := 4, pos := "law.go:99", after := #[{ on := 12, ground := Go.Ground.data }, { on := 13, ground := Go.Ground.data }, { on := 10, ground := Go.Ground.guard }], guard := some (10, false) }) (v := ?_) rfl (by kernel_rfl) (by kernel_rfl) (by kernel_rfl) (fun _ _ _ h => h) (Or.inl ⟨by rfl, ?hya13⟩) (by assumption) ?resta13
  case hya13 => (intro w hSw; (try dsimp only at hSw); go_simp; first | (with_reducible rfl) | (rw [if_neg (by omega)]) | skip)
  simp only [Act.put, List.setIfInBounds_toArray, List.set_cons_zero, List.set_cons_succ]
  refine wpAnyH_take (i := 15) (oi := { dst := some 100, op := Go.Op.pick (Go.Operand.tmp 95) (Go.Operand.const (Go.Value.bool true)) (Go.Operand.tmp 99), type := 4, pos := "law.go:99", after := #[{ on := 10, ground := Go.Ground.data }, { on := 14, ground := Go.Ground.data }], guard := none }) (v := ?_) rfl (by kernel_rfl) (by kernel_rfl) (by kernel_rfl) (fun _ _ _ h => h) (Or.inl ⟨by rfl, ?hya14⟩) (by assumption) ?resta14
  case hya14 => (intro w hSw; (try dsimp only at hSw); go_simp; first | (with_reducible rfl) | (rw [if_neg (by omega)]) | skip)
  simp only [Act.put, List.setIfInBounds_toArray, List.set_cons_zero, List.set_cons_succ]
  refine wpAnyH_take (i := 16) (oi := { dst := some 101, op := Go.Op.move (Go.Operand.tmp 100), type := 4, pos := "law.go:99", after := #[{ on := 15, ground := Go.Ground.data }, { on := 12, ground := Go.Ground.chain }], guard := none }) (v := ?_) rfl (by kernel_rfl) (by kernel_rfl) (by kernel_rfl) (fun _ _ _ h => h) (Or.inl ⟨by rfl, ?hya15⟩) (by assumption) ?resta15
  case hya15 => (intro w hSw; (try dsimp only at hSw); go_simp; first | (with_reducible rfl) | (rw [if_neg (by omega)]) | skip)
  simp only [Act.put, List.setIfInBounds_toArray, List.set_cons_zero, List.set_cons_succ]
  refine wpAnyH_take (i := 17) (oi := { dst := some 102, op := Go.Op.load 65 (Go.Operand.tmp 8), type := 65, pos := "law.go:99", after := #[{ on := 16, ground := Go.Ground.guard }], guard := some (16, false) }) (v := ?_) rfl (by kernel_rfl) (by kernel_rfl) (by kernel_rfl) (fun _ _ _ h => h) (Or.inl ⟨by rfl, ?hya16⟩) (by assumption) ?resta16
  case hya16 => (intro w hSw; (try dsimp only at hSw); go_simp; first | (with_reducible rfl) | (rw [if_neg (by omega)]) | skip)
  simp only [Act.put, List.setIfInBounds_toArray, List.set_cons_zero, List.set_cons_succ]
  refine wpAnyH_take (i := 19) (oi := { dst := some 104, op := Go.Op.fieldAddr 53 (Go.Operand.tmp 2) 4, type := 0, pos := "law.go:99", after := #[{ on := 16, ground := Go.Ground.guard }], guard := some (16, false) }) (v := ?_) rfl (by kernel_rfl) (by kernel_rfl) (by kernel_rfl) (fun _ _ _ h => h) (Or.inl ⟨by rfl, ?hya17⟩) (by assumption) ?resta17
  case hya17 => (intro w hSw; (try dsimp only at hSw); go_simp; first | (with_reducible rfl) | (rw [if_neg (by omega)]) | skip)
  simp only [Act.put, List.setIfInBounds_toArray, List.set_cons_zero, List.set_cons_succ]
  refine wpAnyH_take (i := 20) (oi := { dst := some 105, op := Go.Op.fieldAddr 51 (Go.Operand.tmp 104) 0, type := 0, pos := "law.go:99", after := #[{ on := 19, ground := Go.Ground.data }, { on := 16, ground := Go.Ground.guard }], guard := some (16, false) }) (v := ?_) rfl (by kernel_rfl) (by kernel_rfl) (by kernel_rfl) (fun _ _ _ h => h) (Or.inl ⟨by rfl, ?hya18⟩) (by assumption) ?resta18
  case hya18 => (intro w hSw; (try dsimp only at hSw); go_simp; first | (with_reducible rfl) | (rw [if_neg (by omega)]) | skip)
  simp only [Act.put, List.setIfInBounds_toArray, List.set_cons_zero, List.set_cons_succ]
  refine wpAnyH_take (i := 21) (oi := { dst := some 106, op := Go.Op.load 5 (Go.Operand.tmp 105), type := 5, pos := "law.go:99", after := #[{ on := 20, ground := Go.Ground.data }, { on := 16, ground := Go.Ground.guard }], guard := some (16, false) }) (v := ?_) rfl (by kernel_rfl) (by kernel_rfl) (by kernel_rfl) (fun _ _ _ h => h) (Or.inl ⟨by rfl, ?hya19⟩) (by assumption) ?resta19
  case hya19 => (intro w hSw; (try dsimp only at hSw); go_simp; first | (with_reducible rfl) | (rw [if_neg (by omega)]) | skip)
  simp only [Act.put, List.setIfInBounds_toArray, List.set_cons_zero, List.set_cons_succ]
  refine wpAnyH_ready (rs := [18]) (by kernel_rfl) (by simp) ?_
  refine AllReadyH.cons (o := { dst := some 103, op := Go.Op.call { callee := Go.Callee.value (Go.Operand.func 27), args := #[Go.Operand.tmp 102], argTypes := #[65] }, type := 4, pos := "law.go:99", after := #[{ on := 17, ground := Go.Ground.data }, { on := 16, ground := Go.Ground.chain }, { on := 16, ground := Go.Ground.guard }], guard := some (16, false) }) rfl (fun K hK => ?_) AllReadyH.nil
  go_simp
  go_at_call 27; (with_reducible refine (HR4.out _).mono ?_); rintro e w1 ⟨rfl, hb1⟩
  refine hK.out _ _ ?_ (fun hHeld => ?_)
  · (try dsimp only); exact keepS HC.out (hHeld.1.trans (hb1.mono hHeld.1.size))
  clear hK K
  try simp only [Act.put, List.setIfInBounds_toArray, List.set_cons_zero, List.set_cons_succ]
  refine wpAnyH_ready (rs := [22]) (by kernel_rfl) (by simp) ?_
  refine AllReadyH.cons (o := { dst := some 107, op := Go.Op.call { callee := Go.Callee.value (Go.Operand.func 28), args := #[Go.Operand.tmp 106], argTypes := #[5] }, type := 4, pos := "law.go:99", after := #[{ on := 21, ground := Go.Ground.data }, { on := 18, ground := Go.Ground.chain }, { on := 16, ground := Go.Ground.guard }], guard := some (16, false) }) rfl (fun K hK => ?_) AllReadyH.nil
  go_simp
  go_at_call 28; (with_reducible refine (HR5.out _).mono ?_); rintro e w1 ⟨rfl, hb1⟩
  refine hK.out _ _ ?_ (fun hHeld => ?_)
  · (try dsimp only); exact keepS HC.out (hHeld.1.trans (hb1.mono hHeld.1.size))
  clear hK K
  try simp only [Act.put, List.setIfInBounds_toArray, List.set_cons_zero, List.set_cons_succ]
  refine wpAnyH_take (i := 23) (oi := { dst := some 108, op := Go.Op.binOp Go.BinOp.neq 4 (Go.Operand.tmp 103) (Go.Operand.tmp 107) 4, type := 4, pos := "law.go:99", after := #[{ on := 18, ground := Go.Ground.data }, { on := 22, ground := Go.Ground.data }, { on := 16, ground := Go.Ground.guard }], guard := some (16, false) }) (v := ?_) rfl (by kernel_rfl) (by kernel_rfl) (by kernel_rfl) (fun _ _ _ h => h) (Or.inl ⟨by rfl, ?hya20⟩) (by assumption) ?resta20
  case hya20 => (intro w hSw; (try dsimp only at hSw); go_simp; first | (with_reducible rfl) | (rw [if_neg (by omega)]) | skip)
  simp only [Act.put, List.setIfInBounds_toArray, List.set_cons_zero, List.set_cons_succ]
  refine wpAnyH_take (i := 24) (oi := { dst := some 109, op := Go.Op.pick (Go.Operand.tmp 101) (Go.Operand.const (Go.Value.bool true)) (Go.Operand.tmp 108), type := 4, pos := "law.go:99", after := #[{ on := 16, ground := Go.Ground.data }, { on := 23, ground := Go.Ground.data }], guard := none }) (v := ?_) rfl (by kernel_rfl) (by kernel_rfl) (by kernel_rfl) (fun _ _ _ h => h) (Or.inl ⟨by rfl, ?hya21⟩) (by assumption) ?resta21
  case hya21 => (intro w hSw; (try dsimp only at hSw); go_simp; first | (with_reducible rfl) | (rw [if_neg (by omega)]) | skip)
  simp only [Act.put, List.setIfInBounds_toArray, List.set_cons_zero, List.set_cons_succ]
  refine wpAnyH_take (i := 25) (oi := { dst := some 110, op := Go.Op.move (Go.Operand.tmp 109), type := 4, pos := "law.go:99", after := #[{ on := 24, ground := Go.Ground.data }, { on := 22, ground := Go.Ground.chain }], guard := none }) (v := ?_) rfl (by kernel_rfl) (by kernel_rfl) (by kernel_rfl) (fun _ _ _ h => h) (Or.inl ⟨by rfl, ?hya22⟩) (by assumption) ?resta22
  case hya22 => (intro w hSw; (try dsimp only at hSw); go_simp; first | (with_reducible rfl) | (rw [if_neg (by omega)]) | skip)
  simp only [Act.put, List.setIfInBounds_toArray, List.set_cons_zero, List.set_cons_succ]
  refine wpAnyH_take (i := 26) (oi := { dst := some 111, op := Go.Op.fieldAddr 53 (Go.Operand.tmp 2) 0, type := 0, pos := "law.go:99", after := #[{ on := 25, ground := Go.Ground.guard }], guard := some (25, false) }) (v := ?_) rfl (by kernel_rfl) (by kernel_rfl) (by kernel_rfl) (fun _ _ _ h => h) (Or.inl ⟨by rfl, ?hya23⟩) (by assumption) ?resta23
  case hya23 => (intro w hSw; (try dsimp only at hSw); go_simp; first | (with_reducible rfl) | (rw [if_neg (by omega)]) | skip)
  simp only [Act.put, List.setIfInBounds_toArray, List.set_cons_zero, List.set_cons_succ]
  refine wpAnyH_take (i := 27) (oi := { dst := some 112, op := Go.Op.load 5 (Go.Operand.tmp 111), type := 5, pos := "law.go:99", after := #[{ on := 26, ground := Go.Ground.data }, { on := 25, ground := Go.Ground.guard }], guard := some (25, false) }) (v := ?_) rfl (by kernel_rfl) (by kernel_rfl) (by kernel_rfl) (fun _ _ _ h => h) (Or.inl ⟨by rfl, ?hya24⟩) (by assumption) ?resta24
  case hya24 => (intro w hSw; (try dsimp only at hSw); go_simp; first | (with_reducible rfl) | (rw [if_neg (by omega)]) | skip)
  simp only [Act.put, List.setIfInBounds_toArray, List.set_cons_zero, List.set_cons_succ]
  refine wpAnyH_take (i := 29) (oi := { dst := some 114, op := Go.Op.fieldAddr 53 (Go.Operand.tmp 2) 0, type := 0, pos := "law.go:99", after := #[{ on := 25, ground := Go.Ground.guard }], guard := some (25, false) }) (v := ?_) rfl (by kernel_rfl) (by kernel_rfl) (by kernel_rfl) (fun _ _ _ h => h) (Or.inl ⟨by rfl, ?hya25⟩) (by assumption) ?resta25
  case hya25 => (intro w hSw; (try dsimp only at hSw); go_simp; first | (with_reducible rfl) | (rw [if_neg (by omega)]) | skip)
  simp only [Act.put, List.setIfInBounds_toArray, List.set_cons_zero, List.set_cons_succ]
  refine wpAnyH_take (i := 30) (oi := { dst := some 115, op := Go.Op.load 5 (Go.Operand.tmp 114), type := 5, pos := "law.go:99", after := #[{ on := 29, ground := Go.Ground.data }, { on := 25, ground := Go.Ground.guard }], guard := some (25, false) }) (v := ?_) rfl (by kernel_rfl) (by kernel_rfl) (by kernel_rfl) (fun _ _ _ h => h) (Or.inl ⟨by rfl, ?hya26⟩) (by assumption) ?resta26
  case hya26 => (intro w hSw; (try dsimp only at hSw); go_simp; first | (with_reducible rfl) | (rw [if_neg (by omega)]) | skip)
  simp only [Act.put, List.setIfInBounds_toArray, List.set_cons_zero, List.set_cons_succ]
  refine wpAnyH_ready (rs := [28]) (by kernel_rfl) (by simp) ?_
  refine AllReadyH.cons (o := { dst := some 113, op := Go.Op.call { callee := Go.Callee.value (Go.Operand.func 29), args := #[Go.Operand.tmp 112], argTypes := #[60] }, type := 4, pos := "law.go:99", after := #[{ on := 27, ground := Go.Ground.data }, { on := 25, ground := Go.Ground.chain }, { on := 25, ground := Go.Ground.guard }], guard := some (25, false) }) rfl (fun K hK => ?_) AllReadyH.nil
  go_simp
  go_at_call 29; (with_reducible refine (HR6.out _).mono ?_); rintro e w1 ⟨rfl, hb1⟩
  refine hK.out _ _ ?_ (fun hHeld => ?_)
  · (try dsimp only); exact keepS HC.out (hHeld.1.trans (hb1.mono hHeld.1.size))
  clear hK K
  try simp only [Act.put, List.setIfInBounds_toArray, List.set_cons_zero, List.set_cons_succ]
  refine wpAnyH_ready (rs := [31]) (by kernel_rfl) (by simp) ?_
  refine AllReadyH.cons (o := { dst := some 116, op := Go.Op.call { callee := Go.Callee.value (Go.Operand.func 28), args := #[Go.Operand.tmp 115], argTypes := #[5] }, type := 4, pos := "law.go:99", after := #[{ on := 30, ground := Go.Ground.data }, { on := 28, ground := Go.Ground.chain }, { on := 25, ground := Go.Ground.guard }], guard := some (25, false) }) rfl (fun K hK => ?_) AllReadyH.nil
  go_simp
  go_at_call 28; (with_reducible refine (HR7.out _).mono ?_); rintro e w1 ⟨rfl, hb1⟩
  refine hK.out _ _ ?_ (fun hHeld => ?_)
  · (try dsimp only); exact keepS HC.out (hHeld.1.trans (hb1.mono hHeld.1.size))
  clear hK K
  try simp only [Act.put, List.setIfInBounds_toArray, List.set_cons_zero, List.set_cons_succ]
  refine wpAnyH_take (i := 32) (oi := { dst := some 117, op := Go.Op.binOp Go.BinOp.neq 4 (Go.Operand.tmp 113) (Go.Operand.tmp 116) 4, type := 4, pos := "law.go:99", after := #[{ on := 28, ground := Go.Ground.data }, { on := 31, ground := Go.Ground.data }, { on := 25, ground := Go.Ground.guard }], guard := some (25, false) }) (v := ?_) rfl (by kernel_rfl) (by kernel_rfl) (by kernel_rfl) (fun _ _ _ h => h) (Or.inl ⟨by rfl, ?hya27⟩) (by assumption) ?resta27
  case hya27 => (intro w hSw; (try dsimp only at hSw); go_simp; first | (with_reducible rfl) | (rw [if_neg (by omega)]) | skip)
  simp only [Act.put, List.setIfInBounds_toArray, List.set_cons_zero, List.set_cons_succ]
  refine wpAnyH_take (i := 33) (oi := { dst := some 118, op := Go.Op.pick (Go.Operand.tmp 110) (Go.Operand.const (Go.Value.bool true)) (Go.Operand.tmp 117), type := 4, pos := "law.go:99", after := #[{ on := 25, ground := Go.Ground.data }, { on := 32, ground := Go.Ground.data }], guard := none }) (v := ?_) rfl (by kernel_rfl) (by kernel_rfl) (by kernel_rfl) (fun _ _ _ h => h) (Or.inl ⟨by rfl, ?hya28⟩) (by assumption) ?resta28
  case hya28 => (intro w hSw; (try dsimp only at hSw); go_simp; first | (with_reducible rfl) | (rw [if_neg (by omega)]) | skip)
  simp only [Act.put, List.setIfInBounds_toArray, List.set_cons_zero, List.set_cons_succ]
  refine wpAnyH_take (i := 34) (oi := { dst := some 119, op := Go.Op.move (Go.Operand.tmp 118), type := 4, pos := "law.go:99", after := #[{ on := 33, ground := Go.Ground.data }, { on := 31, ground := Go.Ground.chain }], guard := none }) (v := ?_) rfl (by kernel_rfl) (by kernel_rfl) (by kernel_rfl) (fun _ _ _ h => h) (Or.inl ⟨by rfl, ?hya29⟩) (by assumption) ?resta29
  case hya29 => (intro w hSw; (try dsimp only at hSw); go_simp; first | (with_reducible rfl) | (rw [if_neg (by omega)]) | skip)
  simp only [Act.put, List.setIfInBounds_toArray, List.set_cons_zero, List.set_cons_succ]
  refine wpAnyH_take (i := 35) (oi := { dst := some 120, op := Go.Op.fieldAddr 53 (Go.Operand.tmp 2) 0, type := 0, pos := "law.go:99", after := #[{ on := 34, ground := Go.Ground.guard }], guard := some (34, false) }) (v := ?_) rfl (by kernel_rfl) (by kernel_rfl) (by kernel_rfl) (fun _ _ _ h => h) (Or.inl ⟨by rfl, ?hya30⟩) (by assumption) ?resta30
  case hya30 => (intro w hSw; (try dsimp only at hSw); go_simp; first | (with_reducible rfl) | (rw [if_neg (by omega)]) | skip)
  simp only [Act.put, List.setIfInBounds_toArray, List.set_cons_zero, List.set_cons_succ]
  refine wpAnyH_take (i := 36) (oi := { dst := some 121, op := Go.Op.load 5 (Go.Operand.tmp 120), type := 5, pos := "law.go:99", after := #[{ on := 35, ground := Go.Ground.data }, { on := 34, ground := Go.Ground.guard }], guard := some (34, false) }) (v := ?_) rfl (by kernel_rfl) (by kernel_rfl) (by kernel_rfl) (fun _ _ _ h => h) (Or.inl ⟨by rfl, ?hya31⟩) (by assumption) ?resta31
  case hya31 => (intro w hSw; (try dsimp only at hSw); go_simp; first | (with_reducible rfl) | (rw [if_neg (by omega)]) | skip)
  simp only [Act.put, List.setIfInBounds_toArray, List.set_cons_zero, List.set_cons_succ]
  refine wpAnyH_take (i := 38) (oi := { dst := some 123, op := Go.Op.fieldAddr 53 (Go.Operand.tmp 2) 0, type := 0, pos := "law.go:99", after := #[{ on := 34, ground := Go.Ground.guard }], guard := some (34, false) }) (v := ?_) rfl (by kernel_rfl) (by kernel_rfl) (by kernel_rfl) (fun _ _ _ h => h) (Or.inl ⟨by rfl, ?hya32⟩) (by assumption) ?resta32
  case hya32 => (intro w hSw; (try dsimp only at hSw); go_simp; first | (with_reducible rfl) | (rw [if_neg (by omega)]) | skip)
  simp only [Act.put, List.setIfInBounds_toArray, List.set_cons_zero, List.set_cons_succ]
  refine wpAnyH_take (i := 39) (oi := { dst := some 124, op := Go.Op.load 5 (Go.Operand.tmp 123), type := 5, pos := "law.go:99", after := #[{ on := 38, ground := Go.Ground.data }, { on := 34, ground := Go.Ground.guard }], guard := some (34, false) }) (v := ?_) rfl (by kernel_rfl) (by kernel_rfl) (by kernel_rfl) (fun _ _ _ h => h) (Or.inl ⟨by rfl, ?hya33⟩) (by assumption) ?resta33
  case hya33 => (intro w hSw; (try dsimp only at hSw); go_simp; first | (with_reducible rfl) | (rw [if_neg (by omega)]) | skip)
  simp only [Act.put, List.setIfInBounds_toArray, List.set_cons_zero, List.set_cons_succ]
  refine wpAnyH_ready (rs := [37]) (by kernel_rfl) (by simp) ?_
  refine AllReadyH.cons (o := { dst := some 122, op := Go.Op.call { callee := Go.Callee.value (Go.Operand.func 30), args := #[Go.Operand.tmp 121], argTypes := #[60] }, type := 4, pos := "law.go:99", after := #[{ on := 36, ground := Go.Ground.data }, { on := 34, ground := Go.Ground.chain }, { on := 34, ground := Go.Ground.guard }], guard := some (34, false) }) rfl (fun K hK => ?_) AllReadyH.nil
  go_simp
  go_at_call 30; (with_reducible refine (HR8.out _).mono ?_); rintro e w1 ⟨rfl, hb1⟩
  refine hK.out _ _ ?_ (fun hHeld => ?_)
  · (try dsimp only); exact keepS HC.out (hHeld.1.trans (hb1.mono hHeld.1.size))
  clear hK K
  try simp only [Act.put, List.setIfInBounds_toArray, List.set_cons_zero, List.set_cons_succ]
  refine wpAnyH_ready (rs := [40]) (by kernel_rfl) (by simp) ?_
  refine AllReadyH.cons (o := { dst := some 125, op := Go.Op.call { callee := Go.Callee.value (Go.Operand.func 23), args := #[Go.Operand.tmp 124], argTypes := #[5] }, type := 4, pos := "law.go:99", after := #[{ on := 39, ground := Go.Ground.data }, { on := 37, ground := Go.Ground.chain }, { on := 34, ground := Go.Ground.guard }], guard := some (34, false) }) rfl (fun K hK => ?_) AllReadyH.nil
  go_simp
  go_at_call 23; (with_reducible refine (HR9.out _).mono ?_); rintro e w1 ⟨rfl, hb1⟩
  refine hK.out _ _ ?_ (fun hHeld => ?_)
  · (try dsimp only); exact keepS HC.out (hHeld.1.trans (hb1.mono hHeld.1.size))
  clear hK K
  try simp only [Act.put, List.setIfInBounds_toArray, List.set_cons_zero, List.set_cons_succ]
  refine wpAnyH_take (i := 41) (oi := { dst := some 126, op := Go.Op.binOp Go.BinOp.neq 4 (Go.Operand.tmp 122) (Go.Operand.tmp 125) 4, type := 4, pos := "law.go:99", after := #[{ on := 37, ground := Go.Ground.data }, { on := 40, ground := Go.Ground.data }, { on := 34, ground := Go.Ground.guard }], guard := some (34, false) }) (v := ?_) rfl (by kernel_rfl) (by kernel_rfl) (by kernel_rfl) (fun _ _ _ h => h) (Or.inl ⟨by rfl, ?hya34⟩) (by assumption) ?resta34
  case hya34 => (intro w hSw; (try dsimp only at hSw); go_simp; first | (with_reducible rfl) | (rw [if_neg (by omega)]) | skip)
  simp only [Act.put, List.setIfInBounds_toArray, List.set_cons_zero, List.set_cons_succ]
  refine wpAnyH_take (i := 42) (oi := { dst := some 127, op := Go.Op.pick (Go.Operand.tmp 119) (Go.Operand.const (Go.Value.bool true)) (Go.Operand.tmp 126), type := 4, pos := "law.go:99", after := #[{ on := 34, ground := Go.Ground.data }, { on := 41, ground := Go.Ground.data }], guard := none }) (v := ?_) rfl (by kernel_rfl) (by kernel_rfl) (by kernel_rfl) (fun _ _ _ h => h) (Or.inl ⟨by rfl, ?hya35⟩) (by assumption) ?resta35
  case hya35 => (intro w hSw; (try dsimp only at hSw); go_simp; first | (with_reducible rfl) | (rw [if_neg (by omega)]) | skip)
  simp only [Act.put, List.setIfInBounds_toArray, List.set_cons_zero, List.set_cons_succ]
  refine wpAnyH_take (i := 43) (oi := { dst := some 128, op := Go.Op.move (Go.Operand.tmp 127), type := 4, pos := "law.go:99", after := #[{ on := 42, ground := Go.Ground.data }, { on := 40, ground := Go.Ground.chain }], guard := none }) (v := ?_) rfl (by kernel_rfl) (by kernel_rfl) (by kernel_rfl) (fun _ _ _ h => h) (Or.inl ⟨by rfl, ?hya36⟩) (by assumption) ?resta36
  case hya36 => (intro w hSw; (try dsimp only at hSw); go_simp; first | (with_reducible rfl) | (rw [if_neg (by omega)]) | skip)
  simp only [Act.put, List.setIfInBounds_toArray, List.set_cons_zero, List.set_cons_succ]
  refine wpAnyH_take (i := 44) (oi := { dst := some 129, op := Go.Op.load 56 (Go.Operand.tmp 5), type := 56, pos := "law.go:99", after := #[{ on := 43, ground := Go.Ground.guard }], guard := some (43, false) }) (v := ?_) rfl (by kernel_rfl) (by kernel_rfl) (by kernel_rfl) (fun _ _ _ h => h) (Or.inl ⟨by rfl, ?hya37⟩) (by assumption) ?resta37
  case hya37 => (intro w hSw; (try dsimp only at hSw); go_simp; first | (with_reducible rfl) | (rw [if_neg (by omega)]) | skip)
  simp only [Act.put, List.setIfInBounds_toArray, List.set_cons_zero, List.set_cons_succ]
  refine wpAnyH_take (i := 45) (oi := { dst := some 130, op := Go.Op.load 44 (Go.Operand.tmp 3), type := 44, pos := "law.go:99", after := #[{ on := 43, ground := Go.Ground.guard }], guard := some (43, false) }) (v := ?_) rfl (by kernel_rfl) (by kernel_rfl) (by kernel_rfl) (fun _ _ _ h => h) (Or.inl ⟨by rfl, ?hya38⟩) (by assumption) ?resta38
  case hya38 => (intro w hSw; (try dsimp only at hSw); go_simp; first | (with_reducible rfl) | (rw [if_neg (by omega)]) | skip)
  simp only [Act.put, List.setIfInBounds_toArray, List.set_cons_zero, List.set_cons_succ]
  refine wpAnyH_take (i := 48) (oi := { dst := some 133, op := Go.Op.fieldAddr 53 (Go.Operand.tmp 2) 1, type := 0, pos := "law.go:99", after := #[{ on := 43, ground := Go.Ground.guard }], guard := some (43, false) }) (v := ?_) rfl (by kernel_rfl) (by kernel_rfl) (by kernel_rfl) (fun _ _ _ h => h) (Or.inl ⟨by rfl, ?hya39⟩) (by assumption) ?resta39
  case hya39 => (intro w hSw; (try dsimp only at hSw); go_simp; first | (with_reducible rfl) | (rw [if_neg (by omega)]) | skip)
  simp only [Act.put, List.setIfInBounds_toArray, List.set_cons_zero, List.set_cons_succ]
  refine wpAnyH_take (i := 49) (oi := { dst := some 134, op := Go.Op.load 44 (Go.Operand.tmp 133), type := 44, pos := "law.go:99", after := #[{ on := 48, ground := Go.Ground.data }, { on := 43, ground := Go.Ground.guard }], guard := some (43, false) }) (v := ?_) rfl (by kernel_rfl) (by kernel_rfl) (by kernel_rfl) (fun _ _ _ h => h) (Or.inl ⟨by rfl, ?hya40⟩) (by assumption) ?resta40
  case hya40 => (intro w hSw; (try dsimp only at hSw); go_simp; first | (with_reducible rfl) | (rw [if_neg (by omega)]) | skip)
  simp only [Act.put, List.setIfInBounds_toArray, List.set_cons_zero, List.set_cons_succ]
  refine wpAnyH_take (i := 50) (oi := { dst := some 135, op := Go.Op.load 44 (Go.Operand.tmp 3), type := 44, pos := "law.go:99", after := #[{ on := 43, ground := Go.Ground.guard }], guard := some (43, false) }) (v := ?_) rfl (by kernel_rfl) (by kernel_rfl) (by kernel_rfl) (fun _ _ _ h => h) (Or.inl ⟨by rfl, ?hya41⟩) (by assumption) ?resta41
  case hya41 => (intro w hSw; (try dsimp only at hSw); go_simp; first | (with_reducible rfl) | (rw [if_neg (by omega)]) | skip)
  simp only [Act.put, List.setIfInBounds_toArray, List.set_cons_zero, List.set_cons_succ]
  refine wpAnyH_take (i := 51) (oi := { dst := some 136, op := Go.Op.binOp Go.BinOp.eql 44 (Go.Operand.tmp 134) (Go.Operand.tmp 135) 44, type := 4, pos := "law.go:99", after := #[{ on := 49, ground := Go.Ground.data }, { on := 50, ground := Go.Ground.data }, { on := 43, ground := Go.Ground.guard }], guard := some (43, false) }) (v := .bool bs) rfl (by kernel_rfl) (by kernel_rfl) (by kernel_rfl) (fun _ _ _ h => h) (Or.inl ⟨by rfl, ?hya42⟩) (by assumption) ?resta42
  case hya42 => (intro w hSw; (try dsimp only at hSw); go_simp; rw [← HBS.out]; by_cases e1 : p.toList = s.toList <;> by_cases e2 : r.toList = u.toList <;> simp [e1, e2])
  simp only [Act.put, List.setIfInBounds_toArray, List.set_cons_zero, List.set_cons_succ]
  refine wpAnyH_ready (rs := [46]) (by kernel_rfl) (by simp) ?_
  refine AllReadyH.cons (o := { dst := some 131, op := Go.Op.call { callee := Go.Callee.value (Go.Operand.func 18), args := #[Go.Operand.tmp 130], argTypes := #[44] }, type := 56, pos := "law.go:99", after := #[{ on := 45, ground := Go.Ground.data }, { on := 43, ground := Go.Ground.chain }, { on := 43, ground := Go.Ground.guard }], guard := some (43, false) }) rfl (fun K hK => ?_) AllReadyH.nil
  go_simp
  go_at_call 18; (with_reducible refine (HO.out _).mono ?_); rintro e w1 ⟨v0, v1, rfl, hv0, hv1, hb1⟩; obtain ⟨A2, c2, rfl, q2, C2⟩ := Kd.R_reads hv0; obtain ⟨A3, c3, rfl, q3, C3⟩ := Kd.R_reads hv1; have HCC := hid (And.intro C2 C3); clear hv0 hv1 C2 C3
  refine hK.out _ _ ?_ (fun hHeld => ?_)
  · (try dsimp only); exact keepS HC.out (hHeld.1.trans (hb1.mono hHeld.1.size))
  clear hK K
  try simp only [Act.put, List.setIfInBounds_toArray, List.set_cons_zero, List.set_cons_succ]
  refine wpAnyH_ready (rs := [47]) (by kernel_rfl) (by simp) ?_
  refine AllReadyH.cons (o := { dst := some 132, op := Go.Op.call { callee := Go.Callee.value (Go.Operand.func 31), args := #[Go.Operand.tmp 129, Go.Operand.tmp 131], argTypes := #[56, 56] }, type := 4, pos := "law.go:99", after := #[{ on := 44, ground := Go.Ground.data }, { on := 46, ground := Go.Ground.data }, { on := 46, ground := Go.Ground.chain }, { on := 43, ground := Go.Ground.guard }], guard := some (43, false) }) rfl (fun K hK => ?_) AllReadyH.nil
  go_simp
  go_at_call 31; (with_reducible refine (HE.out _ _ _ _ _ hHeld.1 HCC.out.1 HCC.out.2 q2 q3).mono ?_); rintro e w1 ⟨rfl, hb1⟩
  refine hK.out _ _ ?_ (fun hHeld => ?_)
  · (try dsimp only); exact keepS HC.out (hHeld.1.trans (hb1.mono hHeld.1.size))
  clear hK K
  try simp only [Act.put, List.setIfInBounds_toArray, List.set_cons_zero, List.set_cons_succ]
  refine wpAnyH_take (i := 52) (oi := { dst := some 137, op := Go.Op.binOp Go.BinOp.neq 4 (Go.Operand.tmp 132) (Go.Operand.tmp 136) 4, type := 4, pos := "law.go:99", after := #[{ on := 47, ground := Go.Ground.data }, { on := 51, ground := Go.Ground.data }, { on := 43, ground := Go.Ground.guard }], guard := some (43, false) }) (v := ?_) rfl (by kernel_rfl) (by kernel_rfl) (by kernel_rfl) (fun _ _ _ h => h) (Or.inl ⟨by rfl, ?hya43⟩) (by assumption) ?resta43
  case hya43 => (intro w hSw; (try dsimp only at hSw); go_simp; first | (with_reducible rfl) | (rw [if_neg (by omega)]) | skip)
  simp only [Act.put, List.setIfInBounds_toArray, List.set_cons_zero, List.set_cons_succ]
  refine wpAnyH_take (i := 53) (oi := { dst := some 138, op := Go.Op.pick (Go.Operand.tmp 128) (Go.Operand.const (Go.Value.bool true)) (Go.Operand.tmp 137), type := 4, pos := "law.go:99", after := #[{ on := 43, ground := Go.Ground.data }, { on := 52, ground := Go.Ground.data }], guard := none }) (v := ?_) rfl (by kernel_rfl) (by kernel_rfl) (by kernel_rfl) (fun _ _ _ h => h) (Or.inl ⟨by rfl, ?hya44⟩) (by assumption) ?resta44
  case hya44 => (intro w hSw; (try dsimp only at hSw); go_simp; first | (with_reducible rfl) | (rw [if_neg (by omega)]) | skip)
  simp only [Act.put, List.setIfInBounds_toArray, List.set_cons_zero, List.set_cons_succ]
  refine wpAnyH_done (by kernel_rfl) ?_ _
  refine NoPanic.normal ?_
  exact HQ.out _ _ _ _ _ _ _ _ _ _ _ _ _ _ _ _ _ _ _ _ _ _ _ _ _ _ _ _ _ _ _ _ _ _ _ _ _ _ _ _ _ _ _ _ _ _ _ _ _ _ _ _ _ _ hHeld.1
end Go.Proofs.YtiohiiekaofkbaaDoor
