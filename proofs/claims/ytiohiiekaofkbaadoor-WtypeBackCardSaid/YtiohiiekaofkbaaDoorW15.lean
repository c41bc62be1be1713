/- The walk of WtypeBack: region 7. -/
import Derived.Test.YtiohiiekaofkbaaDoorW14
namespace Go.Proofs.YtiohiiekaofkbaaDoor
set_option linter.unusedVariables false
set_option linter.unusedSimpArgs false
open Go.RowKit Go.Proofs.YtiohiiekaofkbaaDoor.PWtypePuts Go.Proofs.YtiohiiekaofkbaaDoorW.PrintWords

/-- a row of bytes that is handed on -/
abbrev RB (W : World) (base : Nat) (v : Value) (l : List Int) : Prop := Kd.R (Kd.int .u8) 5 W base (fun _ => True) v l
theorem fputR (A B : Option Addr) (c d : Nat) (l m : List Int) (w0 w : World) (h0 : CV w A l) (hc0 : l.length ≤ c) (h1 : CV w B m) (hc1 : m.length ≤ d) (hl : l.length ≤ 1000) (hm : m.length ≤ 1000) (hB : Below w0.heap.size w0 w) :
    Calls Tryd.prog 32 #[.agg #[.slice A l.length c, .slice B m.length d], .slice none 0 0] w fun e w' => ∃ v', e = .returned v' ∧ RB w' w0.heap.size v' (funcB l m) ∧ Below w0.heap.size w0 w' :=
  (wtype_Func_Put.calls 1100 A c l B d m (fun _ => False) (.slice none 0 0) [] _ w0 w hB (fun W hk => (Kd.heap_int .u8).C (fun i hi => hk.2 i hi (fun q => q)) h0) hc0 (fun W hk => (Kd.heap_int .u8).C (fun i hi => hk.2 i hi (fun q => q)) h1) hc1 (Kd.R_nil _ _ _ _ _) (funcPut_some l m [] (by omega) (by omega) (by simp) 1100 (by omega) (by omega))).mono fun _ _ ⟨v', h1, h2, h3, _⟩ => ⟨v', h1, Kd.R_mono h2 (fun _ _ => trivial), h3⟩
theorem gputR (v : Int) (m : Bool) (u : Value) (b : List Int) (w0 w : World) (hb : b.length ≤ 1000) (hB : Below w0.heap.size w0 w) (ho : RB w w0.heap.size u b) :
    Calls Tryd.prog 40 #[.agg #[.int .u8 v, .bool m], u] w fun e w' => ∃ v', e = .returned v' ∧ RB w' w0.heap.size v' (b ++ [v, bitB m]) ∧ Below w0.heap.size w0 w' :=
  (wtype_Global_Put.calls v m (fun _ => True) u b _ w0 w hB ho (globPut_some v m b (by omega))).mono fun _ _ ⟨v', h1, h2, h3, _⟩ => ⟨v', h1, Kd.R_mono h2 (fun _ _ => trivial), h3⟩
theorem tputR (v : Int) (m : Bool) (a b2 : Int) (u : Value) (b : List Int) (w0 w : World) (a0 : 0 ≤ a) (a1 : a ≤ 4294967295) (b0 : 0 ≤ b2) (b1 : b2 ≤ 4294967295) (hb : b.length ≤ 1000) (hB : Below w0.heap.size w0 w) (ho : RB w w0.heap.size u b) :
    Calls Tryd.prog 38 #[.agg #[.int .u8 v, .bool m, .int .u32 a, .int .u32 b2], u] w fun e w' => ∃ v', e = .returned v' ∧ RB w' w0.heap.size v' (b ++ ([v] ++ lputB m a b2)) ∧ Below w0.heap.size w0 w' :=
  (wtype_Table_Put.calls 10 v m a b2 (fun _ => True) u b _ w0 w hB ho (tabPut_some v m a b2 b a0 a1 b0 b1 (by omega) 10 (by omega))).mono fun _ _ ⟨v', h1, h2, h3, _⟩ => ⟨v', h1, Kd.R_mono h2 (fun _ _ => trivial), h3⟩
theorem own_bytesAt {W : World} {base : Nat} {v : Value} {l : List Int} (h : Own W base v l) (hl : 1 ≤ l.length) : ∃ ab c, v = .slice (some ⟨ab, 0, none⟩) l.length c ∧ BytesAt (some ⟨ab, 0, none⟩) l W ∧ base ≤ ab ∧ ab < W.heap.size := by
  obtain ⟨g, cap, rfl, h1, h2⟩ := Own.form h hl
  refine ⟨g, cap, rfl, .inr ⟨_, rfl, fun j x hj => ?_⟩, h1, h2⟩
  have hlt : j < l.length := (List.getElem?_eq_some_iff.1 hj).1
  have e := World.ownsRow.cellAt h j (by omega)
  have hx : (bv l)[j]? = some (.int .u8 x) := by unfold bv; rw [List.getElem?_map, hj]; rfl
  rw [hx] at e
  by_cases h0 : j = 0
  · subst h0; exact e
  · have : (⟨g, 0, none⟩ : Addr).add j = ⟨g, j, none⟩ := by simp [Addr.add, h0]
    rw [this]; exact e
theorem allB3_zero (p r : ByteArray) (gv : Int) (gm : Bool) (tv : Int) (tm : Bool) (ta tb : Int) (hp : p.size ≤ 300) (hr : r.size ≤ 300) (ta0 : 0 ≤ ta) (ta1 : ta ≤ 4294967295) (tb0 : 0 ≤ tb) (tb1 : tb ≤ 4294967295) : (funcB (bytesOf p) (bytesOf r) ++ [gv, bitB gm]) ++ ([tv] ++ lputB tm ta tb) = allB3 p r gv gm tv tm ta tb 0 := by
  rw [allB3, funcM_zero p r (by omega) (by omega), limM_zero tm ta0 ta1 tb0 tb1]
set_option maxRecDepth 100000 in
set_option maxHeartbeats 16000000 in
theorem wb7 (Q : Exit → Act → World → Prop) (X : Nat) (vv : Int) (p r : ByteArray) (lm : Bool) (la lb tv : Int) (tm : Bool) (ta tb gv : Int) (gm : Bool) (wb w : World) {t0 t1 t3 t4 t5 t6 t7 t8 t9 t10 t11 t12 t13 t14 t15 t16 t17 t18 t19 t20 t21 t22 t23 t24 t25 t26 t27 t28 t29 t30 t31 t32 t33 t34 t35 t36 t37 t38 t39 t40 t41 t42 t43 t44 t45 t46 t47 t48 t49 t50 t51 t52 t53 t54 t55 t56 t57 t58 t59 t60 t61 t62 t63 t64 t65 t66 t67 t68 t69 t70 t71 t72 t73 t74 t75 t76 t77 t78 t79 t80 t81 t82 t83 t84 t85 t86 t87 t88 t89 t90 t91 t92 t93 t94 t95 t96 t97 t98 t99 t100 t101 t102 t103 t104 t105 t106 t107 t108 t109 t110 t111 t112 t113 t114 t115 t116 t117 t118 t119 t120 t121 t122 t123 t124 t125 t126 t127 t128 t129 t130 t131 t132 t133 t134 t135 t136 t137 t138 t139 t140 : Value} (hC : wb.cell? ⟨X, 0, none⟩ = some (.int .u8 vv) ∧ wb.cell? ⟨X, 1, none⟩ = some (.string p) ∧ wb.cell? ⟨X, 2, none⟩ = some (.string r) ∧ wb.cell? ⟨X, 3, none⟩ = some (.bool lm) ∧ wb.cell? ⟨X, 4, none⟩ = some (.int .u32 la) ∧ wb.cell? ⟨X, 5, none⟩ = some (.int .u32 lb) ∧ wb.cell? ⟨X, 6, none⟩ = some (.int .u8 tv) ∧ wb.cell? ⟨X, 7, none⟩ = some (.bool tm) ∧ wb.cell? ⟨X, 8, none⟩ = some (.int .u32 ta) ∧ wb.cell? ⟨X, 9, none⟩ = some (.int .u32 tb) ∧ wb.cell? ⟨X, 10, none⟩ = some (.int .u8 gv) ∧ wb.cell? ⟨X, 11, none⟩ = some (.bool gm)) (hB : Below wb.heap.size wb w) (hp : p.size ≤ 300) (hr : r.size ≤ 300) (ta0 : 0 ≤ ta) (ta1 : ta ≤ 4294967295) (tb0 : 0 ≤ tb) (tb1 : tb ≤ 4294967295)
    (hq : ∀ (s79 s80 s81 s82 s83 s84 s85 s86 s87 s88 s89 s90 : Value) (ab : Nat) (c : Nat) (W : World), Below wb.heap.size wb W → Own W wb.heap.size (.slice (some ⟨ab, 0, none⟩) (allB3 p r gv gm tv tm ta tb 0).length c) (allB3 p r gv gm tv tm ta tb 0) → BytesAt (some ⟨ab, 0, none⟩) (allB3 p r gv gm tv tm ta tb 0) W → wb.heap.size ≤ ab → ab < W.heap.size → Q .normal ({ tmps := #[t0, t1, .pointer (some ⟨X, 0, none⟩), t3, t4, t5, t6, .slice (some ⟨ab, 0, none⟩) (allB3 p r gv gm tv tm ta tb 0).length c, t8, t9, t10, t11, t12, t13, t14, t15, t16, t17, t18, t19, t20, t21, t22, t23, t24, t25, t26, t27, t28, t29, t30, t31, t32, t33, t34, t35, t36, t37, t38, t39, t40, t41, t42, t43, t44, t45, t46, t47, t48, t49, t50, t51, t52, t53, t54, t55, t56, t57, t58, t59, t60, t61, t62, t63, t64, t65, t66, t67, t68, t69, t70, t71, t72, t73, t74, t75, t76, t77, t78, s79, s80, s81, s82, s83, s84, s85, s86, s87, s88, s89, s90, t91, t92, t93, t94, t95, t96, t97, t98, t99, t100, t101, t102, t103, t104, t105, t106, t107, t108, t109, t110, t111, t112, t113, t114, t115, t116, t117, t118, t119, t120, t121, t122, t123, t124, t125, t126, t127, t128, t129, t130, t131, t132, t133, t134, t135, t136, t137, t138, t139, t140], defers := [] } : Act) W) :
    (Code.region 7 #[{ dst := some 79, op := Go.Op.fieldAddr 53 (Go.Operand.tmp 2) 3, type := 0, pos := "outright.go:21", after := #[], guard := none },
    { dst := some 80, op := Go.Op.load 49 (Go.Operand.tmp 79), type := 49, pos := "outright.go:21", after := #[{ on := 0, ground := Go.Ground.data }], guard := none },
    { dst := some 81, op := Go.Op.call { callee := Go.Callee.value (Go.Operand.func 20), args := #[Go.Operand.tmp 80], argTypes := #[49] }, type := 62, pos := "outright.go:21", after := #[{ on := 1, ground := Go.Ground.data }], guard := none },
    { dst := some 82, op := Go.Op.fieldAddr 53 (Go.Operand.tmp 2) 4, type := 0, pos := "outright.go:21", after := #[], guard := none },
    { dst := some 83, op := Go.Op.load 51 (Go.Operand.tmp 82), type := 51, pos := "outright.go:21", after := #[{ on := 3, ground := Go.Ground.data }], guard := none },
    { dst := some 84, op := Go.Op.call { callee := Go.Callee.value (Go.Operand.func 21), args := #[Go.Operand.tmp 83], argTypes := #[51] }, type := 65, pos := "outright.go:21", after := #[{ on := 4, ground := Go.Ground.data }, { on := 2, ground := Go.Ground.chain }], guard := none },
    { dst := some 85, op := Go.Op.fieldAddr 53 (Go.Operand.tmp 2) 1, type := 0, pos := "outright.go:21", after := #[], guard := none },
    { dst := some 86, op := Go.Op.load 44 (Go.Operand.tmp 85), type := 44, pos := "outright.go:21", after := #[{ on := 6, ground := Go.Ground.data }], guard := none },
    { dst := some 87, op := Go.Op.call { callee := Go.Callee.value (Go.Operand.func 18), args := #[Go.Operand.tmp 86], argTypes := #[44] }, type := 56, pos := "outright.go:21", after := #[{ on := 7, ground := Go.Ground.data }, { on := 5, ground := Go.Ground.chain }], guard := none },
    { dst := some 88, op := Go.Op.call { callee := Go.Callee.value (Go.Operand.func 32), args := #[Go.Operand.tmp 87, Go.Operand.const (Go.Value.slice none 0 0)], argTypes := #[56, 70] }, type := 70, pos := "outright.go:21", after := #[{ on := 8, ground := Go.Ground.data }, { on := 8, ground := Go.Ground.chain }], guard := none },
    { dst := some 89, op := Go.Op.call { callee := Go.Callee.value (Go.Operand.func 40), args := #[Go.Operand.tmp 84, Go.Operand.tmp 88], argTypes := #[65, 70] }, type := 70, pos := "outright.go:21", after := #[{ on := 5, ground := Go.Ground.data }, { on := 9, ground := Go.Ground.data }, { on := 9, ground := Go.Ground.chain }], guard := none },
    { dst := some 90, op := Go.Op.call { callee := Go.Callee.value (Go.Operand.func 38), args := #[Go.Operand.tmp 81, Go.Operand.tmp 89], argTypes := #[62, 70] }, type := 70, pos := "outright.go:21", after := #[{ on := 2, ground := Go.Ground.data }, { on := 10, ground := Go.Ground.data }, { on := 10, ground := Go.Ground.chain }], guard := none },
    { dst := some 7, op := Go.Op.assign (Go.Operand.tmp 90), type := 70, pos := "outright.go:21", after := #[{ on := 11, ground := Go.Ground.data }, { on := 11, ground := Go.Ground.chain }, { on := 0, ground := Go.Ground.phase }, { on := 1, ground := Go.Ground.phase }, { on := 2, ground := Go.Ground.phase }, { on := 3, ground := Go.Ground.phase }, { on := 4, ground := Go.Ground.phase }, { on := 5, ground := Go.Ground.phase }, { on := 6, ground := Go.Ground.phase }, { on := 7, ground := Go.Ground.phase }, { on := 8, ground := Go.Ground.phase }, { on := 9, ground := Go.Ground.phase }, { on := 10, ground := Go.Ground.phase }, { on := 11, ground := Go.Ground.phase }], guard := none }] true).wp Tryd.prog Q ({ tmps := #[t0, t1, .pointer (some ⟨X, 0, none⟩), t3, t4, t5, t6, t7, t8, t9, t10, t11, t12, t13, t14, t15, t16, t17, t18, t19, t20, t21, t22, t23, t24, t25, t26, t27, t28, t29, t30, t31, t32, t33, t34, t35, t36, t37, t38, t39, t40, t41, t42, t43, t44, t45, t46, t47, t48, t49, t50, t51, t52, t53, t54, t55, t56, t57, t58, t59, t60, t61, t62, t63, t64, t65, t66, t67, t68, t69, t70, t71, t72, t73, t74, t75, t76, t77, t78, t79, t80, t81, t82, t83, t84, t85, t86, t87, t88, t89, t90, t91, t92, t93, t94, t95, t96, t97, t98, t99, t100, t101, t102, t103, t104, t105, t106, t107, t108, t109, t110, t111, t112, t113, t114, t115, t116, t117, t118, t119, t120, t121, t122, t123, t124, t125, t126, t127, t128, t129, t130, t131, t132, t133, t134, t135, t136, t137, t138, t139, t140], defers := [] } : Act) w := by
  have HC := hid hC
  have HB := hid hB
  have HQ := hid hq
  have hlen := allB3_len p r gv gm tv tm ta tb 0 hp hr ta0 ta1 tb0 tb1 (by omega)
  have hE := allB3_zero p r gv gm tv tm ta tb hp hr ta0 ta1 tb0 tb1
  have hfl : (funcB (bytesOf p) (bytesOf r)).length ≤ 700 ∧ (funcB (bytesOf p) (bytesOf r) ++ [gv, bitB gm]).length ≤ 700 := by
    rw [← hE] at hlen
    simp only [List.length_append] at hlen ⊢
    omega
  have HE := hid (And.intro hE hlen)
  have HR1 := hid (fun W => otab_walk tv tm ta tb W)
  have HR2 := hid (fun W => oglob_walk gv gm W)
  have HR3 := hid (fun W => ofunc_walk p r W (by omega) (by omega))
  have HR4 := hid (fun W A B c d (h : Below wb.heap.size wb W) h0 h1 (q0 : (bytesOf p).length ≤ c) (q1 : (bytesOf r).length ≤ d) => fputR A B c d (bytesOf p) (bytesOf r) wb W h0 q0 h1 q1 (by rw [bytesOf_length]; omega) (by rw [bytesOf_length]; omega) h)
  have HR5 := hid (fun W u (h : Below wb.heap.size wb W) ho => gputR gv gm u (funcB (bytesOf p) (bytesOf r)) wb W (by omega) h ho)
  have HR6 := hid (fun W u (h : Below wb.heap.size wb W) ho => tputR tv tm ta tb u (funcB (bytesOf p) (bytesOf r) ++ [gv, bitB gm]) wb W ta0 ta1 tb0 tb1 (by omega) h ho)
  rw [hE] at HR6
  obtain ⟨L2, hL2⟩ : ∃ L2, funcB (bytesOf p) (bytesOf r) ++ [gv, bitB gm] = L2 := ⟨_, rfl⟩
  rw [hL2] at HR5 HR6
  obtain ⟨L1, hL1⟩ : ∃ L1, funcB (bytesOf p) (bytesOf r) = L1 := ⟨_, rfl⟩
  rw [hL1] at HR4 HR5
  clear hC hB hq hE hlen hfl hL1 hL2
  have hu0 := Tryd.underlying53
  have hu1 := Tryd.underlying56
  have hu2 := Tryd.underlying58
  have hu3 := Tryd.underlying62
  have hu4 := Tryd.underlying65
  have hu5 := Tryd.underlying44
  have hu6 := Tryd.underlying49
  have hu7 := Tryd.underlying51
  refine wp_region_noPanic ?_
  refine wp_region_held_drew (S := (fun W => Below wb.heap.size wb W ∧ W.cell? ⟨X, 0, none⟩ = some (.int .u8 vv) ∧ W.cell? ⟨X, 1, none⟩ = some (.string p) ∧ W.cell? ⟨X, 2, none⟩ = some (.string r) ∧ W.cell? ⟨X, 3, none⟩ = some (.bool lm) ∧ W.cell? ⟨X, 4, none⟩ = some (.int .u32 la) ∧ W.cell? ⟨X, 5, none⟩ = some (.int .u32 lb) ∧ W.cell? ⟨X, 6, none⟩ = some (.int .u8 tv) ∧ W.cell? ⟨X, 7, none⟩ = some (.bool tm) ∧ W.cell? ⟨X, 8, none⟩ = some (.int .u32 ta) ∧ W.cell? ⟨X, 9, none⟩ = some (.int .u32 tb) ∧ W.cell? ⟨X, 10, none⟩ = some (.int .u8 gv) ∧ W.cell? ⟨X, 11, none⟩ = some (.bool gm))) (by kernel_rfl) ?hSa1 (fun hHeld => ?goa1)
  case hSa1 => exact keepX12 HC.out HB.out.drew
  refine wpAnyH_take (i := 0) (oi := { dst := some 79, op := Go.Op.fieldAddr 53 (Go.Operand.tmp 2) 3, type := 0, pos := "outright.go:21", after := #[], guard := none }) (v := ?_) rfl (by kernel_rfl) (by kernel_rfl) (by kernel_rfl) (fun _ _ _ h => h) (Or.inl ⟨by rfl, ?hya2⟩) (by assumption) ?resta2
  case hya2 => (intro w hSw; (try dsimp only at hSw); go_simp; first | (with_reducible rfl) | (rw [if_neg (by omega)]) | skip)
  simp only [Act.put, List.setIfInBounds_toArray, List.set_cons_zero, List.set_cons_succ]
  refine wpAnyH_take (i := 1) (oi := { dst := some 80, op := Go.Op.load 49 (Go.Operand.tmp 79), type := 49, pos := "outright.go:21", after := #[{ on := 0, ground := Go.Ground.data }], guard := none }) (v := ?_) rfl (by kernel_rfl) (by kernel_rfl) (by kernel_rfl) (fun _ _ _ h => h) (Or.inl ⟨by rfl, ?hya3⟩) (by assumption) ?resta3
  case hya3 => (intro w hSw; (try dsimp only at hSw); go_simp; first | (with_reducible rfl) | (rw [if_neg (by omega)]) | skip)
  simp only [Act.put, List.setIfInBounds_toArray, List.set_cons_zero, List.set_cons_succ]
  refine wpAnyH_take (i := 3) (oi := { dst := some 82, op := Go.Op.fieldAddr 53 (Go.Operand.tmp 2) 4, type := 0, pos := "outright.go:21", after := #[], guard := none }) (v := ?_) rfl (by kernel_rfl) (by kernel_rfl) (by kernel_rfl) (fun _ _ _ h => h) (Or.inl ⟨by rfl, ?hya4⟩) (by assumption) ?resta4
  case hya4 => (intro w hSw; (try dsimp only at hSw); go_simp; first | (with_reducible rfl) | (rw [if_neg (by omega)]) | skip)
  simp only [Act.put, List.setIfInBounds_toArray, List.set_cons_zero, List.set_cons_succ]
  refine wpAnyH_take (i := 4) (oi := { dst := some 83, op := Go.Op.load 51 (Go.Operand.tmp 82), type := 51, pos := "outright.go:21", after := #[{ on := 3, ground := Go.Ground.data }], guard := none }) (v := ?_) rfl (by kernel_rfl) (by kernel_rfl) (by kernel_rfl) (fun _ _ _ h => h) (Or.inl ⟨by rfl, ?hya5⟩) (by assumption) ?resta5
  case hya5 => (intro w hSw; (try dsimp only at hSw); go_simp; first | (with_reducible rfl) | (rw [if_neg (by omega)]) | skip)
  simp only [Act.put, List.setIfInBounds_toArray, List.set_cons_zero, List.set_cons_succ]
  refine wpAnyH_take (i := 6) (oi := { dst := some 85, op := Go.Op.fieldAddr 53 (Go.Operand.tmp 2) 1, type := 0, pos := "outright.go:21", after := #[], guard := none }) (v := ?_) rfl (by kernel_rfl) (by kernel_rfl) (by kernel_rfl) (fun _ _ _ h => h) (Or.inl ⟨by rfl, ?hya6⟩) (by assumption) ?resta6
  case hya6 => (intro w hSw; (try dsimp only at hSw); go_simp; first | (with_reducible rfl) | (rw [if_neg (by omega)]) | skip)
  simp only [Act.put, List.setIfInBounds_toArray, List.set_cons_zero, List.set_cons_succ]
  refine wpAnyH_take (i := 7) (oi := { dst := some 86, op := Go.Op.load 44 (Go.Operand.tmp 85), type := 44, pos := "outright.go:21", after := #[{ on := 6, ground := Go.Ground.data }], guard := none }) (v := ?_) rfl (by kernel_rfl) (by kernel_rfl) (by kernel_rfl) (fun _ _ _ h => h) (Or.inl ⟨by rfl, ?hya7⟩) (by assumption) ?resta7
  case hya7 => (intro w hSw; (try dsimp only at hSw); go_simp; first | (with_reducible rfl) | (rw [if_neg (by omega)]) | skip)
  simp only [Act.put, List.setIfInBounds_toArray, List.set_cons_zero, List.set_cons_succ]
  refine wpAnyH_ready (rs := [2]) (by kernel_rfl) (by simp) ?_
  refine AllReadyH.cons (o := { dst := some 81, op := Go.Op.call { callee := Go.Callee.value (Go.Operand.func 20), args := #[Go.Operand.tmp 80], argTypes := #[49] }, type := 62, pos := "outright.go:21", after := #[{ on := 1, ground := Go.Ground.data }], guard := none }) rfl (fun K hK => ?_) AllReadyH.nil
  go_simp
  go_at_call 20; (with_reducible refine (HR1.out _).mono ?_); rintro e w1 ⟨rfl, hb1⟩
  refine hK.out _ _ ?_ (fun hHeld => ?_)
  · (try dsimp only); exact keepX12 HC.out (hHeld.1.trans (hb1.mono hHeld.1.size))
  clear hK K
  try simp only [Act.put, List.setIfInBounds_toArray, List.set_cons_zero, List.set_cons_succ]
  refine wpAnyH_ready (rs := [5]) (by kernel_rfl) (by simp) ?_
  refine AllReadyH.cons (o := { dst := some 84, op := Go.Op.call { callee := Go.Callee.value (Go.Operand.func 21), args := #[Go.Operand.tmp 83], argTypes := #[51] }, type := 65, pos := "outright.go:21", after := #[{ on := 4, ground := Go.Ground.data }, { on := 2, ground := Go.Ground.chain }], guard := none }) rfl (fun K hK => ?_) AllReadyH.nil
  go_simp
  go_at_call 21; (with_reducible refine (HR2.out _).mono ?_); rintro e w1 ⟨rfl, hb1⟩
  refine hK.out _ _ ?_ (fun hHeld => ?_)
  · (try dsimp only); exact keepX12 HC.out (hHeld.1.trans (hb1.mono hHeld.1.size))
  clear hK K
  try simp only [Act.put, List.setIfInBounds_toArray, List.set_cons_zero, List.set_cons_succ]
  refine wpAnyH_ready (rs := [8]) (by kernel_rfl) (by simp) ?_
  refine AllReadyH.cons (o := { dst := some 87, op := Go.Op.call { callee := Go.Callee.value (Go.Operand.func 18), args := #[Go.Operand.tmp 86], argTypes := #[44] }, type := 56, pos := "outright.go:21", after := #[{ on := 7, ground := Go.Ground.data }, { on := 5, ground := Go.Ground.chain }], guard := none }) rfl (fun K hK => ?_) AllReadyH.nil
  go_simp
  go_at_call 18; (with_reducible refine (HR3.out _).mono ?_); rintro e w1 ⟨v0, v1, rfl, hv0, hv1, hb1⟩; obtain ⟨A2, c2, rfl, q2, C2⟩ := Kd.R_reads hv0; obtain ⟨A3, c3, rfl, q3, C3⟩ := Kd.R_reads hv1; have HCC := hid (And.intro C2 C3); clear hv0 hv1 C2 C3
  refine hK.out _ _ ?_ (fun hHeld => ?_)
  · (try dsimp only); exact keepX12 HC.out (hHeld.1.trans (hb1.mono hHeld.1.size))
  clear hK K
  try simp only [Act.put, List.setIfInBounds_toArray, List.set_cons_zero, List.set_cons_succ]
  refine wpAnyH_ready (rs := [9]) (by kernel_rfl) (by simp) ?_
  refine AllReadyH.cons (o := { dst := some 88, op := Go.Op.call { callee := Go.Callee.value (Go.Operand.func 32), args := #[Go.Operand.tmp 87, Go.Operand.const (Go.Value.slice none 0 0)], argTypes := #[56, 70] }, type := 70, pos := "outright.go:21", after := #[{ on := 8, ground := Go.Ground.data }, { on := 8, ground := Go.Ground.chain }], guard := none }) rfl (fun K hK => ?_) AllReadyH.nil
  go_simp
  go_at_call 32; (with_reducible refine (HR4.out _ _ _ _ _ hHeld.1 HCC.out.1 HCC.out.2 q2 q3).mono ?_); rintro e w1 ⟨v4, rfl, ho, hb1⟩; obtain ⟨A4, c4, rfl⟩ := Kd.R_slice ho; have HO := hid ho; clear ho
  refine hK.out _ _ ?_ (fun hHeld => ?_)
  · (try dsimp only); exact keepX12 HC.out hb1
  clear hK K
  try simp only [Act.put, List.setIfInBounds_toArray, List.set_cons_zero, List.set_cons_succ]
  refine wpAnyH_ready (rs := [10]) (by kernel_rfl) (by simp) ?_
  refine AllReadyH.cons (o := { dst := some 89, op := Go.Op.call { callee := Go.Callee.value (Go.Operand.func 40), args := #[Go.Operand.tmp 84, Go.Operand.tmp 88], argTypes := #[65, 70] }, type := 70, pos := "outright.go:21", after := #[{ on := 5, ground := Go.Ground.data }, { on := 9, ground := Go.Ground.data }, { on := 9, ground := Go.Ground.chain }], guard := none }) rfl (fun K hK => ?_) AllReadyH.nil
  go_simp
  go_at_call 40; (with_reducible refine (HR5.out _ _ hHeld.1 HO.out).mono ?_); rintro e w1 ⟨v5, rfl, ho, hb1⟩; obtain ⟨A5, c5, rfl⟩ := Kd.R_slice ho; have HO := hid ho; clear ho
  refine hK.out _ _ ?_ (fun hHeld => ?_)
  · (try dsimp only); exact keepX12 HC.out hb1
  clear hK K
  try simp only [Act.put, List.setIfInBounds_toArray, List.set_cons_zero, List.set_cons_succ]
  refine wpAnyH_ready (rs := [11]) (by kernel_rfl) (by simp) ?_
  refine AllReadyH.cons (o := { dst := some 90, op := Go.Op.call { callee := Go.Callee.value (Go.Operand.func 38), args := #[Go.Operand.tmp 81, Go.Operand.tmp 89], argTypes := #[62, 70] }, type := 70, pos := "outright.go:21", after := #[{ on := 2, ground := Go.Ground.data }, { on := 10, ground := Go.Ground.data }, { on := 10, ground := Go.Ground.chain }], guard := none }) rfl (fun K hK => ?_) AllReadyH.nil
  go_simp
  go_at_call 38; (with_reducible refine (HR6.out _ _ hHeld.1 HO.out).mono ?_); rintro e w1 ⟨v6, rfl, ho, hb1⟩; obtain ⟨ab, c6, rfl, hbt, hw1, hw2⟩ := own_bytesAt (own_of_Kd ho) HE.out.2.2; have HO := hid (own_of_Kd ho); have HBT := hid hbt; clear ho hbt
  refine hK.out _ _ ?_ (fun hHeld => ?_)
  · (try dsimp only); exact keepX12 HC.out hb1
  clear hK K
  try simp only [Act.put, List.setIfInBounds_toArray, List.set_cons_zero, List.set_cons_succ]
  refine wpAnyH_take (i := 12) (oi := { dst := some 7, op := Go.Op.assign (Go.Operand.tmp 90), type := 70, pos := "outright.go:21", after := #[{ on := 11, ground := Go.Ground.data }, { on := 11, ground := Go.Ground.chain }, { on := 0, ground := Go.Ground.phase }, { on := 1, ground := Go.Ground.phase }, { on := 2, ground := Go.Ground.phase }, { on := 3, ground := Go.Ground.phase }, { on := 4, ground := Go.Ground.phase }, { on := 5, ground := Go.Ground.phase }, { on := 6, ground := Go.Ground.phase }, { on := 7, ground := Go.Ground.phase }, { on := 8, ground := Go.Ground.phase }, { on := 9, ground := Go.Ground.phase }, { on := 10, ground := Go.Ground.phase }, { on := 11, ground := Go.Ground.phase }], guard := none }) (v := ?_) rfl (by kernel_rfl) (by kernel_rfl) (by kernel_rfl) (fun _ _ _ h => h) (Or.inl ⟨by rfl, ?hya8⟩) (by assumption) ?resta8
  case hya8 => (intro w hSw; (try dsimp only at hSw); go_simp; first | (with_reducible rfl) | (rw [if_neg (by omega)]) | skip)
  simp only [Act.put, List.setIfInBounds_toArray, List.set_cons_zero, List.set_cons_succ]
  refine wpAnyH_done (by kernel_rfl) ?_ _
  refine NoPanic.normal ?_
  exact HQ.out _ _ _ _ _ _ _ _ _ _ _ _ ab c6 _ hHeld.1 HO.out HBT.out hw1 hw2
end Go.Proofs.YtiohiiekaofkbaaDoor
