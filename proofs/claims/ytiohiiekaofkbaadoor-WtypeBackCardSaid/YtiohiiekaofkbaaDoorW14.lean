/- The walk of WtypeBack: region 6. -/
import Derived.Test.YtiohiiekaofkbaaDoorW13
namespace Go.Proofs.YtiohiiekaofkbaaDoor
set_option linter.unusedVariables false
set_option linter.unusedSimpArgs false
open Go.RowKit Go.Proofs.YtiohiiekaofkbaaDoor.PWtypePuts Go.Proofs.YtiohiiekaofkbaaDoorW.PrintWords

theorem keepX12 {X : Nat} {vv : Int} {p r : ByteArray} {lm : Bool} {la lb : Int} {tv : Int} {tm : Bool} {ta tb : Int} {gv : Int} {gm : Bool} {wb W : World} (h : wb.cell? ⟨X, 0, none⟩ = some (.int .u8 vv) ∧ wb.cell? ⟨X, 1, none⟩ = some (.string p) ∧ wb.cell? ⟨X, 2, none⟩ = some (.string r) ∧ wb.cell? ⟨X, 3, none⟩ = some (.bool lm) ∧ wb.cell? ⟨X, 4, none⟩ = some (.int .u32 la) ∧ wb.cell? ⟨X, 5, none⟩ = some (.int .u32 lb) ∧ wb.cell? ⟨X, 6, none⟩ = some (.int .u8 tv) ∧ wb.cell? ⟨X, 7, none⟩ = some (.bool tm) ∧ wb.cell? ⟨X, 8, none⟩ = some (.int .u32 ta) ∧ wb.cell? ⟨X, 9, none⟩ = some (.int .u32 tb) ∧ wb.cell? ⟨X, 10, none⟩ = some (.int .u8 gv) ∧ wb.cell? ⟨X, 11, none⟩ = some (.bool gm)) (hb : Below wb.heap.size wb W) : Below wb.heap.size wb W ∧ W.cell? ⟨X, 0, none⟩ = some (.int .u8 vv) ∧ W.cell? ⟨X, 1, none⟩ = some (.string p) ∧ W.cell? ⟨X, 2, none⟩ = some (.string r) ∧ W.cell? ⟨X, 3, none⟩ = some (.bool lm) ∧ W.cell? ⟨X, 4, none⟩ = some (.int .u32 la) ∧ W.cell? ⟨X, 5, none⟩ = some (.int .u32 lb) ∧ W.cell? ⟨X, 6, none⟩ = some (.int .u8 tv) ∧ W.cell? ⟨X, 7, none⟩ = some (.bool tm) ∧ W.cell? ⟨X, 8, none⟩ = some (.int .u32 ta) ∧ W.cell? ⟨X, 9, none⟩ = some (.int .u32 tb) ∧ W.cell? ⟨X, 10, none⟩ = some (.int .u8 gv) ∧ W.cell? ⟨X, 11, none⟩ = some (.bool gm) :=
  ⟨hb, still hb h.1, still hb h.2.1, still hb h.2.2.1, still hb h.2.2.2.1, still hb h.2.2.2.2.1, still hb h.2.2.2.2.2.1, still hb h.2.2.2.2.2.2.1, still hb h.2.2.2.2.2.2.2.1, still hb h.2.2.2.2.2.2.2.2.1, still hb h.2.2.2.2.2.2.2.2.2.1, still hb h.2.2.2.2.2.2.2.2.2.2.1, still hb h.2.2.2.2.2.2.2.2.2.2.2⟩
theorem bytes_at_conv (W : World) (s : ByteArray) : BytesAt (some ⟨W.heap.size, 0, none⟩) (bytesOf s) (Lib.bytesWorld W 5 s) := by
  refine .inr ⟨_, rfl, fun j x hj => ?_⟩
  have hlt : j < s.size := by
    have := (List.getElem?_eq_some_iff.1 hj).1
    rwa [bytesOf_length] at this
  have e := Lib.bytesWorld_cell W 5 s j hlt
  have hx : x = (s.data.toList.getD j 0).toNat := by
    unfold bytesOf at hj
    rw [List.getElem?_map] at hj
    obtain ⟨b, hb, rfl⟩ := Option.map_eq_some_iff.1 hj
    rw [List.getD_eq_getElem?_getD, hb]; rfl
  rw [hx]
  by_cases h0 : j = 0
  · subst h0; exact e
  · have : (⟨W.heap.size, 0, none⟩ : Addr).add j = ⟨W.heap.size, j, none⟩ := by simp [Addr.add, h0]
    rw [this]; exact e
theorem below_conv (W : World) (s : ByteArray) : Below W.heap.size W (Lib.bytesWorld W 5 s) :=
  ⟨rfl, rfl, rfl, by rw [Lib.bytesWorld_size]; omega, fun k hk => Lib.bytesWorld_at_old W 5 s k hk⟩
theorem conv_at {n : Nat} {wb W : World} {R : Prop} (h : Below n wb W ∧ R) (s : ByteArray) : ∃ c ab Wn, (convert 9 70 (.string s)).run Tryd.prog W = .ok (.slice (some ⟨ab, 0, none⟩) s.size c) Wn ∧ Below W.heap.size W Wn ∧ BytesAt (some ⟨ab, 0, none⟩) (bytesOf s) Wn ∧ ab = W.heap.size ∧ ab < Wn.heap.size :=
  ⟨_, _, _, Lib.run_convert_string_bytes W 9 70 5 s Tryd.underlying9 Tryd.underlying70 Tryd.underlying5, below_conv W s, bytes_at_conv W s, rfl, by rw [Lib.bytesWorld_size]; exact Nat.lt_succ_self _⟩
theorem BytesAt.below {A : Option Addr} {l : List Int} {w w' : World} (h : BytesAt A l w) (hb : Below w.heap.size w w') : BytesAt A l w' := h.fr (P := fun _ => False) (fun _ _ q => q) (Fr.of_below hb)
theorem newC {wb W : World} {R : Prop} (h : Below wb.heap.size wb W ∧ R) : ∃ Wn B, W.alloc (.cells #[.slice none 0 0] 70) = Wn ∧ W.heap.size = B ∧ Wn.heap[B]? = some (.cells #[.slice none 0 0] 70 (0, 0)) ∧ Below W.heap.size W Wn ∧ wb.heap.size ≤ B :=
  ⟨_, _, rfl, rfl, blkN W _, Below.alloc (Below.refl _ _) (Nat.le_refl _) _, h.1.size⟩
theorem conv_row {W : World} {ab : Nat} {l : List Int} {c : Nat} (h : BytesAt (some ⟨ab, 0, none⟩) l W) : (convert 70 9 (.slice (some ⟨ab, 0, none⟩) l.length c)).run Tryd.prog W = .ok (.string (strOfNums l)) W := by
  refine run_convert_bytes_arg W 70 5 Tryd.underlying70 Tryd.underlying5 ab 0 l.length c l rfl (fun i hi => ?_) 9 Tryd.underlying9
  rcases h with h | ⟨ad, e, h⟩
  · rw [h] at hi; simp at hi
  · cases e
    have := h i l[i] (List.getElem?_eq_getElem hi)
    rw [List.getD_eq_getElem?_getD, List.getElem?_eq_getElem hi]
    by_cases h0 : i = 0
    · subst h0; exact this
    · have e2 : (⟨ab, 0, none⟩ : Addr).add i = ⟨ab, i, none⟩ := by simp [Addr.add, h0]
      rw [e2] at this
      rw [Nat.zero_add]; exact this
theorem blkLt {w : World} {g : Nat} {o : Obj} (h : w.heap[g]? = some o) : g < w.heap.size := by
  rcases Nat.lt_or_ge g w.heap.size with h2 | h2
  · exact h2
  · rw [Array.getElem?_eq_none h2] at h; cases h
theorem one_at {W : World} {B : Nat} {a : Value} {t : TypeId} (h : W.heap[B]? = some (.cells #[a] t (0, 0))) : W.cell? ⟨B, 0, none⟩ = some a ∧ W.frozen? ⟨B, 0, none⟩ = false := by
  simp [World.cell?, World.frozen?, h]
set_option maxRecDepth 100000 in
set_option maxHeartbeats 16000000 in
theorem wb6 (Q : Exit → Act → World → Prop) (X : Nat) (vv : Int) (p r : ByteArray) (lm : Bool) (la lb tv : Int) (tm : Bool) (ta tb gv : Int) (gm : Bool) (wb w : World) (n : Int) {t0 t1 t3 t4 t6 t7 t8 t9 t10 t11 t12 t13 t14 t15 t16 t17 t18 t19 t20 t21 t22 t23 t24 t25 t26 t27 t28 t29 t30 t31 t32 t33 t34 t35 t36 t37 t38 t39 t40 t41 t42 t43 t44 t45 t46 t47 t48 t49 t50 t51 t52 t53 t54 t55 t56 t57 t58 t59 t60 t61 t62 t63 t64 t65 t66 t67 t68 t69 t70 t71 t72 t73 t74 t75 t76 t77 t78 t79 t80 t81 t82 t83 t84 t85 t86 t87 t88 t89 t90 t91 t92 t93 t94 t95 t96 t97 t98 t99 t100 t101 t102 t103 t104 t105 t106 t107 t108 t109 t110 t111 t112 t113 t114 t115 t116 t117 t118 t119 t120 t121 t122 t123 t124 t125 t126 t127 t128 t129 t130 t131 t132 t133 t134 t135 t136 t137 t138 t139 t140 : Value} (hC : wb.cell? ⟨X, 0, none⟩ = some (.int .u8 vv) ∧ wb.cell? ⟨X, 1, none⟩ = some (.string p) ∧ wb.cell? ⟨X, 2, none⟩ = some (.string r) ∧ wb.cell? ⟨X, 3, none⟩ = some (.bool lm) ∧ wb.cell? ⟨X, 4, none⟩ = some (.int .u32 la) ∧ wb.cell? ⟨X, 5, none⟩ = some (.int .u32 lb) ∧ wb.cell? ⟨X, 6, none⟩ = some (.int .u8 tv) ∧ wb.cell? ⟨X, 7, none⟩ = some (.bool tm) ∧ wb.cell? ⟨X, 8, none⟩ = some (.int .u32 ta) ∧ wb.cell? ⟨X, 9, none⟩ = some (.int .u32 tb) ∧ wb.cell? ⟨X, 10, none⟩ = some (.int .u8 gv) ∧ wb.cell? ⟨X, 11, none⟩ = some (.bool gm)) (hB : Below wb.heap.size wb w) (hp : p.size ≤ 300) (hr : r.size ≤ 300) (ta0 : 0 ≤ ta) (ta1 : ta ≤ 4294967295) (tb0 : 0 ≤ tb) (tb1 : tb ≤ 4294967295) (n0 : 0 ≤ n) (n1 : n ≤ 4) (hgv : 0 ≤ gv ∧ gv < 256) (htv : 0 ≤ tv ∧ tv < 256)
    (hq : ∀ (s65 s66 s67 s68 s69 s70 s71 s72 s73 s74 s75 s76 s77 s78 : Value) (B : Nat) (ab : Nat) (c : Nat) (W : World), Below wb.heap.size wb W → wb.heap.size ≤ B → W.cell? ⟨B, 0, none⟩ = some (.slice (some ⟨ab, 0, none⟩) (allB3 p r gv gm tv tm ta tb n).length c) → W.frozen? ⟨B, 0, none⟩ = false → BytesAt (some ⟨ab, 0, none⟩) (allB3 p r gv gm tv tm ta tb n) W → ab ≠ B → wb.heap.size ≤ ab → ab < W.heap.size → Q .normal ({ tmps := #[t0, t1, .pointer (some ⟨X, 0, none⟩), t3, t4, .int .i64 n, .pointer (some ⟨B, 0, none⟩), t7, t8, t9, t10, t11, t12, t13, t14, t15, t16, t17, t18, t19, t20, t21, t22, t23, t24, t25, t26, t27, t28, t29, t30, t31, t32, t33, t34, t35, t36, t37, t38, t39, t40, t41, t42, t43, t44, t45, t46, t47, t48, t49, t50, t51, t52, t53, t54, t55, t56, t57, t58, t59, t60, t61, t62, t63, t64, s65, s66, s67, s68, s69, s70, s71, s72, s73, s74, s75, s76, s77, s78, t79, t80, t81, t82, t83, t84, t85, t86, t87, t88, t89, t90, t91, t92, t93, t94, t95, t96, t97, t98, t99, t100, t101, t102, t103, t104, t105, t106, t107, t108, t109, t110, t111, t112, t113, t114, t115, t116, t117, t118, t119, t120, t121, t122, t123, t124, t125, t126, t127, t128, t129, t130, t131, t132, t133, t134, t135, t136, t137, t138, t139, t140], defers := [] } : Act) W) :
    (Code.region 6 #[{ dst := some 65, op := Go.Op.fieldAddr 53 (Go.Operand.tmp 2) 1, type := 0, pos := "outright.go:20", after := #[], guard := none },
    { dst := some 66, op := Go.Op.load 44 (Go.Operand.tmp 65), type := 44, pos := "outright.go:20", after := #[{ on := 0, ground := Go.Ground.data }], guard := none },
    { dst := some 67, op := Go.Op.move (Go.Operand.tmp 5), type := 3, pos := "outright.go:20", after := #[], guard := none },
    { dst := some 68, op := Go.Op.call { callee := Go.Callee.value (Go.Operand.func 33), args := #[Go.Operand.tmp 66, Go.Operand.tmp 67], argTypes := #[44, 3] }, type := 9, pos := "outright.go:20", after := #[{ on := 1, ground := Go.Ground.data }, { on := 2, ground := Go.Ground.data }], guard := none },
    { dst := some 69, op := Go.Op.fieldAddr 53 (Go.Operand.tmp 2) 4, type := 0, pos := "outright.go:20", after := #[], guard := none },
    { dst := some 70, op := Go.Op.load 51 (Go.Operand.tmp 69), type := 51, pos := "outright.go:20", after := #[{ on := 4, ground := Go.Ground.data }], guard := none },
    { dst := some 71, op := Go.Op.call { callee := Go.Callee.value (Go.Operand.func 41), args := #[Go.Operand.tmp 70], argTypes := #[51] }, type := 9, pos := "outright.go:20", after := #[{ on := 5, ground := Go.Ground.data }, { on := 3, ground := Go.Ground.chain }], guard := none },
    { dst := some 72, op := Go.Op.binOp Go.BinOp.add 9 (Go.Operand.tmp 68) (Go.Operand.tmp 71) 9, type := 9, pos := "outright.go:20", after := #[{ on := 3, ground := Go.Ground.data }, { on := 6, ground := Go.Ground.data }], guard := none },
    { dst := some 73, op := Go.Op.fieldAddr 53 (Go.Operand.tmp 2) 3, type := 0, pos := "outright.go:20", after := #[], guard := none },
    { dst := some 74, op := Go.Op.load 49 (Go.Operand.tmp 73), type := 49, pos := "outright.go:20", after := #[{ on := 8, ground := Go.Ground.data }], guard := none },
    { dst := some 75, op := Go.Op.move (Go.Operand.tmp 5), type := 3, pos := "outright.go:20", after := #[], guard := none },
    { dst := some 76, op := Go.Op.call { callee := Go.Callee.value (Go.Operand.func 39), args := #[Go.Operand.tmp 74, Go.Operand.tmp 75], argTypes := #[49, 3] }, type := 9, pos := "outright.go:20", after := #[{ on := 9, ground := Go.Ground.data }, { on := 10, ground := Go.Ground.data }, { on := 6, ground := Go.Ground.chain }], guard := none },
    { dst := some 77, op := Go.Op.binOp Go.BinOp.add 9 (Go.Operand.tmp 72) (Go.Operand.tmp 76) 9, type := 9, pos := "outright.go:20", after := #[{ on := 7, ground := Go.Ground.data }, { on := 11, ground := Go.Ground.data }], guard := none },
    { dst := some 78, op := Go.Op.convert 9 70 (Go.Operand.tmp 77), type := 70, pos := "outright.go:20", after := #[{ on := 12, ground := Go.Ground.data }], guard := none },
    { dst := some 6, op := Go.Op.alloc 70, type := 0, pos := "outright.go:20", after := #[], guard := none },
    { dst := none, op := Go.Op.store 70 (Go.Operand.tmp 6) (Go.Operand.tmp 78), type := 0, pos := "outright.go:20", after := #[{ on := 14, ground := Go.Ground.data }, { on := 13, ground := Go.Ground.data }, { on := 11, ground := Go.Ground.chain }, { on := 0, ground := Go.Ground.phase }, { on := 1, ground := Go.Ground.phase }, { on := 2, ground := Go.Ground.phase }, { on := 3, ground := Go.Ground.phase }, { on := 4, ground := Go.Ground.phase }, { on := 5, ground := Go.Ground.phase }, { on := 6, ground := Go.Ground.phase }, { on := 7, ground := Go.Ground.phase }, { on := 8, ground := Go.Ground.phase }, { on := 9, ground := Go.Ground.phase }, { on := 10, ground := Go.Ground.phase }, { on := 11, ground := Go.Ground.phase }, { on := 12, ground := Go.Ground.phase }, { on := 13, ground := Go.Ground.phase }, { on := 14, ground := Go.Ground.phase }], guard := none }] true).wp Tryd.prog Q ({ tmps := #[t0, t1, .pointer (some ⟨X, 0, none⟩), t3, t4, .int .i64 n, t6, t7, t8, t9, t10, t11, t12, t13, t14, t15, t16, t17, t18, t19, t20, t21, t22, t23, t24, t25, t26, t27, t28, t29, t30, t31, t32, t33, t34, t35, t36, t37, t38, t39, t40, t41, t42, t43, t44, t45, t46, t47, t48, t49, t50, t51, t52, t53, t54, t55, t56, t57, t58, t59, t60, t61, t62, t63, t64, t65, t66, t67, t68, t69, t70, t71, t72, t73, t74, t75, t76, t77, t78, t79, t80, t81, t82, t83, t84, t85, t86, t87, t88, t89, t90, t91, t92, t93, t94, t95, t96, t97, t98, t99, t100, t101, t102, t103, t104, t105, t106, t107, t108, t109, t110, t111, t112, t113, t114, t115, t116, t117, t118, t119, t120, t121, t122, t123, t124, t125, t126, t127, t128, t129, t130, t131, t132, t133, t134, t135, t136, t137, t138, t139, t140], defers := [] } : Act) w := by
  have HC := hid hC
  have HB := hid hB
  have HQ := hid hq
  have hlen := allB3_len p r gv gm tv tm ta tb n hp hr ta0 ta1 tb0 tb1 n0
  have hbl := bytesOf_str (allB3_bytes p r gv gm tv tm ta tb n hp hr hgv.1 hgv.2 htv.1 htv.2 ta0 ta1 tb0 tb1 n0)
  obtain ⟨S1, hS1⟩ : ∃ S1, strOfNums (funcM p r n) = S1 := ⟨_, rfl⟩
  obtain ⟨S2, hS2⟩ : ∃ S2, strOfNums [gv, bitB gm] = S2 := ⟨_, rfl⟩
  obtain ⟨S3, hS3⟩ : ∃ S3, strOfNums ([tv] ++ limM tm ta tb n) = S3 := ⟨_, rfl⟩
  have hsum : (S1 ++ S2) ++ S3 = strOfNums (allB3 p r gv gm tv tm ta tb n) := by rw [← hS1, ← hS2, ← hS3, str_app, str_app]; rfl
  have hz : S1.size + S2.size + S3.size ≤ 700 := by
    have e : ((S1 ++ S2) ++ S3).size = (allB3 p r gv gm tv tm ta tb n).length := by rw [hsum, str_size]
    rw [ByteArray.size_append, ByteArray.size_append] at e
    omega
  have hss : ((S1 ++ S2) ++ S3).size = (allB3 p r gv gm tv tm ta tb n).length := by rw [hsum, str_size]
  have hbb : bytesOf ((S1 ++ S2) ++ S3) = allB3 p r gv gm tv tm ta tb n := by rw [hsum]; exact hbl
  have HSS := hid (And.intro hss hbb)
  have HR1 := hid (fun W => rputFunc_walk p r W n (by omega) (by omega) n0 (by omega))
  rw [hS1] at HR1
  have HR2 := hid (fun W => rputGlob_walk gv gm W)
  rw [hS2] at HR2
  have HR3 := hid (fun W => rputTab_walk tv tm ta tb W n ta0 ta1 tb0 tb1 n0 (by omega))
  rw [hS3] at HR3
  clear hC hB hq hS1 hS2 hS3 hsum hss hbb hbl hlen hgv htv
  have hu0 := Tryd.underlying53
  have hu1 := Tryd.underlying56
  have hu2 := Tryd.underlying58
  have hu3 := Tryd.underlying62
  have hu4 := Tryd.underlying65
  have hu5 := Tryd.underlying44
  have hu6 := Tryd.underlying49
  have hu7 := Tryd.underlying51
  refine wp_region_noPanic ?_
  refine wp_region_held_drew (S := (fun W => Below wb.heap.size wb W ∧ W.cell? ⟨X, 0, none⟩ = some (.int .u8 vv) ∧ W.cell? ⟨X, 1, none⟩ = some (.string p) ∧ W.cell? ⟨X, 2, none⟩ = some (.string r) ∧ W.cell? ⟨X, 3, none⟩ = some (.bool lm) ∧ W.cell? ⟨X, 4, none⟩ = some (.int .u32 la) ∧ W.cell? ⟨X, 5, none⟩ = some (.int .u32 lb) ∧ W.cell? ⟨X, 6, none⟩ = some (.int .u8 tv) ∧ W.cell? ⟨X, 7, none⟩ = some (.bool tm) ∧ W.cell? ⟨X, 8, none⟩ = some (.int .u32 ta) ∧ W.cell? ⟨X, 9, none⟩ = some (.int .u32 tb) ∧ W.cell? ⟨X, 10, none⟩ = some (.int .u8 gv) ∧ W.cell? ⟨X, 11, none⟩ = some (.bool gm))) (by kernel_rfl) ?hSa1 (fun hHeld => ?goa1)
  case hSa1 => exact keepX12 HC.out HB.out.drew
  refine wpAnyH_take (i := 0) (oi := { dst := some 65, op := Go.Op.fieldAddr 53 (Go.Operand.tmp 2) 1, type := 0, pos := "outright.go:20", after := #[], guard := none }) (v := ?_) rfl (by kernel_rfl) (by kernel_rfl) (by kernel_rfl) (fun _ _ _ h => h) (Or.inl ⟨by rfl, ?hya2⟩) (by assumption) ?resta2
  case hya2 => (intro w hSw; (try dsimp only at hSw); go_simp; first | (with_reducible rfl) | (rw [if_neg (by omega)]) | skip)
  simp only [Act.put, List.setIfInBounds_toArray, List.set_cons_zero, List.set_cons_succ]
  refine wpAnyH_take (i := 1) (oi := { dst := some 66, op := Go.Op.load 44 (Go.Operand.tmp 65), type := 44, pos := "outright.go:20", after := #[{ on := 0, ground := Go.Ground.data }], guard := none }) (v := ?_) rfl (by kernel_rfl) (by kernel_rfl) (by kernel_rfl) (fun _ _ _ h => h) (Or.inl ⟨by rfl, ?hya3⟩) (by assumption) ?resta3
  case hya3 => (intro w hSw; (try dsimp only at hSw); go_simp; first | (with_reducible rfl) | (rw [if_neg (by omega)]) | skip)
  simp only [Act.put, List.setIfInBounds_toArray, List.set_cons_zero, List.set_cons_succ]
  refine wpAnyH_take (i := 2) (oi := { dst := some 67, op := Go.Op.move (Go.Operand.tmp 5), type := 3, pos := "outright.go:20", after := #[], guard := none }) (v := ?_) rfl (by kernel_rfl) (by kernel_rfl) (by kernel_rfl) (fun _ _ _ h => h) (Or.inl ⟨by rfl, ?hya4⟩) (by assumption) ?resta4
  case hya4 => (intro w hSw; (try dsimp only at hSw); go_simp; first | (with_reducible rfl) | (rw [if_neg (by omega)]) | skip)
  simp only [Act.put, List.setIfInBounds_toArray, List.set_cons_zero, List.set_cons_succ]
  refine wpAnyH_take (i := 4) (oi := { dst := some 69, op := Go.Op.fieldAddr 53 (Go.Operand.tmp 2) 4, type := 0, pos := "outright.go:20", after := #[], guard := none }) (v := ?_) rfl (by kernel_rfl) (by kernel_rfl) (by kernel_rfl) (fun _ _ _ h => h) (Or.inl ⟨by rfl, ?hya5⟩) (by assumption) ?resta5
  case hya5 => (intro w hSw; (try dsimp only at hSw); go_simp; first | (with_reducible rfl) | (rw [if_neg (by omega)]) | skip)
  simp only [Act.put, List.setIfInBounds_toArray, List.set_cons_zero, List.set_cons_succ]
  refine wpAnyH_take (i := 5) (oi := { dst := some 70, op := Go.Op.load 51 (Go.Operand.tmp 69), type := 51, pos := "outright.go:20", after := #[{ on := 4, ground := Go.Ground.data }], guard := none }) (v := ?_) rfl (by kernel_rfl) (by kernel_rfl) (by kernel_rfl) (fun _ _ _ h => h) (Or.inl ⟨by rfl, ?hya6⟩) (by assumption) ?resta6
  case hya6 => (intro w hSw; (try dsimp only at hSw); go_simp; first | (with_reducible rfl) | (rw [if_neg (by omega)]) | skip)
  simp only [Act.put, List.setIfInBounds_toArray, List.set_cons_zero, List.set_cons_succ]
  refine wpAnyH_take (i := 8) (oi := { dst := some 73, op := Go.Op.fieldAddr 53 (Go.Operand.tmp 2) 3, type := 0, pos := "outright.go:20", after := #[], guard := none }) (v := ?_) rfl (by kernel_rfl) (by kernel_rfl) (by kernel_rfl) (fun _ _ _ h => h) (Or.inl ⟨by rfl, ?hya7⟩) (by assumption) ?resta7
  case hya7 => (intro w hSw; (try dsimp only at hSw); go_simp; first | (with_reducible rfl) | (rw [if_neg (by omega)]) | skip)
  simp only [Act.put, List.setIfInBounds_toArray, List.set_cons_zero, List.set_cons_succ]
  refine wpAnyH_take (i := 9) (oi := { dst := some 74, op := Go.Op.load 49 (Go.Operand.tmp 73), type := 49, pos := "outright.go:20", after := #[{ on := 8, ground := Go.Ground.data }], guard := none }) (v := ?_) rfl (by kernel_rfl) (by kernel_rfl) (by kernel_rfl) (fun _ _ _ h => h) (Or.inl ⟨by rfl, ?hya8⟩) (by assumption) ?resta8
  case hya8 => (intro w hSw; (try dsimp only at hSw); go_simp; first | (with_reducible rfl) | (rw [if_neg (by omega)]) | skip)
  simp only [Act.put, List.setIfInBounds_toArray, List.set_cons_zero, List.set_cons_succ]
  refine wpAnyH_take (i := 10) (oi := { dst := some 75, op := Go.Op.move (Go.Operand.tmp 5), type := 3, pos := "outright.go:20", after := #[], guard := none }) (v := ?_) rfl (by kernel_rfl) (by kernel_rfl) (by kernel_rfl) (fun _ _ _ h => h) (Or.inl ⟨by rfl, ?hya9⟩) (by assumption) ?resta9
  case hya9 => (intro w hSw; (try dsimp only at hSw); go_simp; first | (with_reducible rfl) | (rw [if_neg (by omega)]) | skip)
  simp only [Act.put, List.setIfInBounds_toArray, List.set_cons_zero, List.set_cons_succ]
  refine wpAnyH_ready (rs := [3, 14]) (by kernel_rfl) (by simp) ?_
  refine AllReadyH.cons (o := { dst := some 68, op := Go.Op.call { callee := Go.Callee.value (Go.Operand.func 33), args := #[Go.Operand.tmp 66, Go.Operand.tmp 67], argTypes := #[44, 3] }, type := 9, pos := "outright.go:20", after := #[{ on := 1, ground := Go.Ground.data }, { on := 2, ground := Go.Ground.data }], guard := none }) rfl (fun K hK => ?_) ?_
  · go_simp
    go_at_call 33; (with_reducible refine (HR1.out _).mono ?_); rintro e w1 ⟨rfl, hb1⟩; (try have hz1 := hid (blkB hz1.out hb1)); (try have hbt := hid (hbt.out.below hb1)); (try have had := Nat.lt_of_lt_of_le had hb1.size)
    refine hK.out _ _ ?_ (fun hHeld => ?_)
    · (try dsimp only); exact keepX12 HC.out (hHeld.1.trans (hb1.mono hHeld.1.size))
    clear hK K
    try simp only [Act.put, List.setIfInBounds_toArray, List.set_cons_zero, List.set_cons_succ]
    refine wpAnyH_ready (rs := [6, 14]) (by kernel_rfl) (by simp) ?_
    refine AllReadyH.cons (o := { dst := some 71, op := Go.Op.call { callee := Go.Callee.value (Go.Operand.func 41), args := #[Go.Operand.tmp 70], argTypes := #[51] }, type := 9, pos := "outright.go:20", after := #[{ on := 5, ground := Go.Ground.data }, { on := 3, ground := Go.Ground.chain }], guard := none }) rfl (fun K hK => ?_) ?_
    · go_simp
      go_at_call 41; (with_reducible refine (HR2.out _).mono ?_); rintro e w1 ⟨rfl, hb1⟩; (try have hz1 := hid (blkB hz1.out hb1)); (try have hbt := hid (hbt.out.below hb1)); (try have had := Nat.lt_of_lt_of_le had hb1.size)
      refine hK.out _ _ ?_ (fun hHeld => ?_)
      · (try dsimp only); exact keepX12 HC.out (hHeld.1.trans (hb1.mono hHeld.1.size))
      clear hK K
      try simp only [Act.put, List.setIfInBounds_toArray, List.set_cons_zero, List.set_cons_succ]
      refine wpAnyH_take (i := 7) (oi := { dst := some 72, op := Go.Op.binOp Go.BinOp.add 9 (Go.Operand.tmp 68) (Go.Operand.tmp 71) 9, type := 9, pos := "outright.go:20", after := #[{ on := 3, ground := Go.Ground.data }, { on := 6, ground := Go.Ground.data }], guard := none }) (v := ?_) rfl (by kernel_rfl) (by kernel_rfl) (by kernel_rfl) (fun _ _ _ h => h) (Or.inl ⟨by rfl, ?hya10⟩) (by assumption) ?resta10
      case hya10 => (intro w hSw; (try dsimp only at hSw); go_simp; first | (with_reducible rfl) | (rw [if_neg (by omega)]) | skip)
      simp only [Act.put, List.setIfInBounds_toArray, List.set_cons_zero, List.set_cons_succ]
      refine wpAnyH_ready (rs := [11, 14]) (by kernel_rfl) (by simp) ?_
      refine AllReadyH.cons (o := { dst := some 76, op := Go.Op.call { callee := Go.Callee.value (Go.Operand.func 39), args := #[Go.Operand.tmp 74, Go.Operand.tmp 75], argTypes := #[49, 3] }, type := 9, pos := "outright.go:20", after := #[{ on := 9, ground := Go.Ground.data }, { on := 10, ground := Go.Ground.data }, { on := 6, ground := Go.Ground.chain }], guard := none }) rfl (fun K hK => ?_) ?_
      · go_simp
        go_at_call 39; (with_reducible refine (HR3.out _).mono ?_); rintro e w1 ⟨rfl, hb1⟩; (try have hz1 := hid (blkB hz1.out hb1)); (try have hbt := hid (hbt.out.below hb1)); (try have had := Nat.lt_of_lt_of_le had hb1.size)
        refine hK.out _ _ ?_ (fun hHeld => ?_)
        · (try dsimp only); exact keepX12 HC.out (hHeld.1.trans (hb1.mono hHeld.1.size))
        clear hK K
        try simp only [Act.put, List.setIfInBounds_toArray, List.set_cons_zero, List.set_cons_succ]
        refine wpAnyH_take (i := 12) (oi := { dst := some 77, op := Go.Op.binOp Go.BinOp.add 9 (Go.Operand.tmp 72) (Go.Operand.tmp 76) 9, type := 9, pos := "outright.go:20", after := #[{ on := 7, ground := Go.Ground.data }, { on := 11, ground := Go.Ground.data }], guard := none }) (v := ?_) rfl (by kernel_rfl) (by kernel_rfl) (by kernel_rfl) (fun _ _ _ h => h) (Or.inl ⟨by rfl, ?hya11⟩) (by assumption) ?resta11
        case hya11 => (intro w hSw; (try dsimp only at hSw); go_simp; first | (with_reducible rfl) | (rw [if_neg (by omega)]) | skip)
        simp only [Act.put, List.setIfInBounds_toArray, List.set_cons_zero, List.set_cons_succ]
        refine wpAnyH_ready (rs := [13, 14]) (by kernel_rfl) (by simp) ?_
        refine AllReadyH.cons (o := { dst := some 78, op := Go.Op.convert 9 70 (Go.Operand.tmp 77), type := 70, pos := "outright.go:20", after := #[{ on := 12, ground := Go.Ground.data }], guard := none }) rfl (fun K hK => ?_) ?_
        · (try have hBl := blkLt hz1.out); obtain ⟨c9, ab, w1, hcv, hb1, hbt, hadB, had⟩ := conv_at hHeld ((S1 ++ S2) ++ S3); have hbt := hid hbt; (try have hz1 := hid (blkB hz1.out hb1)); (try have hne := hid (Nat.ne_of_gt (Nat.lt_of_lt_of_eq hBl hadB.symm))); have hadw := hid (show wb.heap.size ≤ ab by rw [hadB]; exact hHeld.1.size); clear hadB
          go_simp
          refine hK.out _ _ ?_ (fun hHeld => ?_)
          · (try dsimp only); exact keepX12 HC.out (hHeld.1.trans (hb1.mono hHeld.1.size))
          clear hK K
          try simp only [Act.put, List.setIfInBounds_toArray, List.set_cons_zero, List.set_cons_succ]
          refine wpAnyH_ready (rs := [14]) (by kernel_rfl) (by simp) ?_
          refine AllReadyH.cons (o := { dst := some 6, op := Go.Op.alloc 70, type := 0, pos := "outright.go:20", after := #[], guard := none }) rfl (fun K hK => ?_) AllReadyH.nil
          go_simp
          obtain ⟨w1, B, e1, e2, hz1, hb1, hBw⟩ := newC hHeld; (try simp only [show ∀ W : World, W.drew.heap.size = W.heap.size from fun _ => rfl] at e2); have hz1 := hid hz1; (try have hne := hid (show ab ≠ B by rw [← e2]; exact Nat.ne_of_lt had)); (try have hbt := hid (hbt.out.below hb1)); (try have had := Nat.lt_of_lt_of_le had hb1.size); (first | rw [e1, e2] | rw [show (w.alloc (.cells #[.slice none 0 0] 70)).drew = w1 from e1, e2]); clear e1 e2
          refine hK.out _ _ ?_ (fun hHeld => ?_)
          · (try dsimp only); exact keepX12 HC.out (hHeld.1.trans (hb1.mono hHeld.1.size))
          clear hK K
          try simp only [Act.put, List.setIfInBounds_toArray, List.set_cons_zero, List.set_cons_succ]
          refine wpAnyH_ready (rs := [15]) (by kernel_rfl) (by simp) ?_
          refine AllReadyH.cons (o := { dst := none, op := Go.Op.store 70 (Go.Operand.tmp 6) (Go.Operand.tmp 78), type := 0, pos := "outright.go:20", after := #[{ on := 14, ground := Go.Ground.data }, { on := 13, ground := Go.Ground.data }, { on := 11, ground := Go.Ground.chain }, { on := 0, ground := Go.Ground.phase }, { on := 1, ground := Go.Ground.phase }, { on := 2, ground := Go.Ground.phase }, { on := 3, ground := Go.Ground.phase }, { on := 4, ground := Go.Ground.phase }, { on := 5, ground := Go.Ground.phase }, { on := 6, ground := Go.Ground.phase }, { on := 7, ground := Go.Ground.phase }, { on := 8, ground := Go.Ground.phase }, { on := 9, ground := Go.Ground.phase }, { on := 10, ground := Go.Ground.phase }, { on := 11, ground := Go.Ground.phase }, { on := 12, ground := Go.Ground.phase }, { on := 13, ground := Go.Ground.phase }, { on := 14, ground := Go.Ground.phase }], guard := none }) rfl (fun K hK => ?_) AllReadyH.nil
          obtain ⟨z0, f0⟩ := one_at hz1.out
          go_simp
          refine hK.out _ _ ?_ (fun hHeld => ?_)
          · (try dsimp only); exact keepX12 HC.out (hHeld.1.setCell (p := ⟨B, 0, none⟩) hBw _)
          clear hK K
          try simp only [Act.put, List.setIfInBounds_toArray, List.set_cons_zero, List.set_cons_succ]
          refine wpAnyH_done (by kernel_rfl) ?_ _
          refine NoPanic.normal ?_
          exact HQ.out _ _ _ _ _ _ _ _ _ _ _ _ _ _ B ab c9 _ hHeld.1 hBw (by have e := HSS.out.1; simp only [ByteArray.size_append] at e; rw [← e]; go_simp) ((World.frozen?_setCell _ _ _ _).trans f0) ((show BytesAt (some ⟨ab, 0, none⟩) (allB3 p r gv gm tv tm ta tb n) _ from HSS.out.2 ▸ hbt.out).set (fun a e => by cases e; show ab ≠ B; exact hne.out) _) hne.out hadw.out (by simpa using had)
        refine AllReadyH.cons (o := { dst := some 6, op := Go.Op.alloc 70, type := 0, pos := "outright.go:20", after := #[], guard := none }) rfl (fun K hK => ?_) ?_
        · go_simp
          obtain ⟨w1, B, e1, e2, hz1, hb1, hBw⟩ := newC hHeld; (try simp only [show ∀ W : World, W.drew.heap.size = W.heap.size from fun _ => rfl] at e2); have hz1 := hid hz1; (try have hne := hid (show ab ≠ B by rw [← e2]; exact Nat.ne_of_lt had)); (try have hbt := hid (hbt.out.below hb1)); (try have had := Nat.lt_of_lt_of_le had hb1.size); (first | rw [e1, e2] | rw [show (w.alloc (.cells #[.slice none 0 0] 70)).drew = w1 from e1, e2]); clear e1 e2
          refine hK.out _ _ ?_ (fun hHeld => ?_)
          · (try dsimp only); exact keepX12 HC.out (hHeld.1.trans (hb1.mono hHeld.1.size))
          clear hK K
          try simp only [Act.put, List.setIfInBounds_toArray, List.set_cons_zero, List.set_cons_succ]
          refine wpAnyH_ready (rs := [13]) (by kernel_rfl) (by simp) ?_
          refine AllReadyH.cons (o := { dst := some 78, op := Go.Op.convert 9 70 (Go.Operand.tmp 77), type := 70, pos := "outright.go:20", after := #[{ on := 12, ground := Go.Ground.data }], guard := none }) rfl (fun K hK => ?_) AllReadyH.nil
          (try have hBl := blkLt hz1.out); obtain ⟨c9, ab, w1, hcv, hb1, hbt, hadB, had⟩ := conv_at hHeld ((S1 ++ S2) ++ S3); have hbt := hid hbt; (try have hz1 := hid (blkB hz1.out hb1)); (try have hne := hid (Nat.ne_of_gt (Nat.lt_of_lt_of_eq hBl hadB.symm))); have hadw := hid (show wb.heap.size ≤ ab by rw [hadB]; exact hHeld.1.size); clear hadB
          go_simp
          refine hK.out _ _ ?_ (fun hHeld => ?_)
          · (try dsimp only); exact keepX12 HC.out (hHeld.1.trans (hb1.mono hHeld.1.size))
          clear hK K
          try simp only [Act.put, List.setIfInBounds_toArray, List.set_cons_zero, List.set_cons_succ]
          refine wpAnyH_ready (rs := [15]) (by kernel_rfl) (by simp) ?_
          refine AllReadyH.cons (o := { dst := none, op := Go.Op.store 70 (Go.Operand.tmp 6) (Go.Operand.tmp 78), type := 0, pos := "outright.go:20", after := #[{ on := 14, ground := Go.Ground.data }, { on := 13, ground := Go.Ground.data }, { on := 11, ground := Go.Ground.chain }, { on := 0, ground := Go.Ground.phase }, { on := 1, ground := Go.Ground.phase }, { on := 2, ground := Go.Ground.phase }, { on := 3, ground := Go.Ground.phase }, { on := 4, ground := Go.Ground.phase }, { on := 5, ground := Go.Ground.phase }, { on := 6, ground := Go.Ground.phase }, { on := 7, ground := Go.Ground.phase }, { on := 8, ground := Go.Ground.phase }, { on := 9, ground := Go.Ground.phase }, { on := 10, ground := Go.Ground.phase }, { on := 11, ground := Go.Ground.phase }, { on := 12, ground := Go.Ground.phase }, { on := 13, ground := Go.Ground.phase }, { on := 14, ground := Go.Ground.phase }], guard := none }) rfl (fun K hK => ?_) AllReadyH.nil
          obtain ⟨z0, f0⟩ := one_at hz1.out
          go_simp
          refine hK.out _ _ ?_ (fun hHeld => ?_)
          · (try dsimp only); exact keepX12 HC.out (hHeld.1.setCell (p := ⟨B, 0, none⟩) hBw _)
          clear hK K
          try simp only [Act.put, List.setIfInBounds_toArray, List.set_cons_zero, List.set_cons_succ]
          refine wpAnyH_done (by kernel_rfl) ?_ _
          refine NoPanic.normal ?_
          exact HQ.out _ _ _ _ _ _ _ _ _ _ _ _ _ _ B ab c9 _ hHeld.1 hBw (by have e := HSS.out.1; simp only [ByteArray.size_append] at e; rw [← e]; go_simp) ((World.frozen?_setCell _ _ _ _).trans f0) ((show BytesAt (some ⟨ab, 0, none⟩) (allB3 p r gv gm tv tm ta tb n) _ from HSS.out.2 ▸ hbt.out).set (fun a e => by cases e; show ab ≠ B; exact hne.out) _) hne.out hadw.out (by simpa using had)
        exact AllReadyH.nil
      refine AllReadyH.cons (o := { dst := some 6, op := Go.Op.alloc 70, type := 0, pos := "outright.go:20", after := #[], guard := none }) rfl (fun K hK => ?_) ?_
      · go_simp
        obtain ⟨w1, B, e1, e2, hz1, hb1, hBw⟩ := newC hHeld; (try simp only [show ∀ W : World, W.drew.heap.size = W.heap.size from fun _ => rfl] at e2); have hz1 := hid hz1; (try have hne := hid (show ab ≠ B by rw [← e2]; exact Nat.ne_of_lt had)); (try have hbt := hid (hbt.out.below hb1)); (try have had := Nat.lt_of_lt_of_le had hb1.size); (first | rw [e1, e2] | rw [show (w.alloc (.cells #[.slice none 0 0] 70)).drew = w1 from e1, e2]); clear e1 e2
        refine hK.out _ _ ?_ (fun hHeld => ?_)
        · (try dsimp only); exact keepX12 HC.out (hHeld.1.trans (hb1.mono hHeld.1.size))
        clear hK K
        try simp only [Act.put, List.setIfInBounds_toArray, List.set_cons_zero, List.set_cons_succ]
        refine wpAnyH_ready (rs := [11]) (by kernel_rfl) (by simp) ?_
        refine AllReadyH.cons (o := { dst := some 76, op := Go.Op.call { callee := Go.Callee.value (Go.Operand.func 39), args := #[Go.Operand.tmp 74, Go.Operand.tmp 75], argTypes := #[49, 3] }, type := 9, pos := "outright.go:20", after := #[{ on := 9, ground := Go.Ground.data }, { on := 10, ground := Go.Ground.data }, { on := 6, ground := Go.Ground.chain }], guard := none }) rfl (fun K hK => ?_) AllReadyH.nil
        go_simp
        go_at_call 39; (with_reducible refine (HR3.out _).mono ?_); rintro e w1 ⟨rfl, hb1⟩; (try have hz1 := hid (blkB hz1.out hb1)); (try have hbt := hid (hbt.out.below hb1)); (try have had := Nat.lt_of_lt_of_le had hb1.size)
        refine hK.out _ _ ?_ (fun hHeld => ?_)
        · (try dsimp only); exact keepX12 HC.out (hHeld.1.trans (hb1.mono hHeld.1.size))
        clear hK K
        try simp only [Act.put, List.setIfInBounds_toArray, List.set_cons_zero, List.set_cons_succ]
        refine wpAnyH_take (i := 12) (oi := { dst := some 77, op := Go.Op.binOp Go.BinOp.add 9 (Go.Operand.tmp 72) (Go.Operand.tmp 76) 9, type := 9, pos := "outright.go:20", after := #[{ on := 7, ground := Go.Ground.data }, { on := 11, ground := Go.Ground.data }], guard := none }) (v := ?_) rfl (by kernel_rfl) (by kernel_rfl) (by kernel_rfl) (fun _ _ _ h => h) (Or.inl ⟨by rfl, ?hya12⟩) (by assumption) ?resta12
        case hya12 => (intro w hSw; (try dsimp only at hSw); go_simp; first | (with_reducible rfl) | (rw [if_neg (by omega)]) | skip)
        simp only [Act.put, List.setIfInBounds_toArray, List.set_cons_zero, List.set_cons_succ]
        refine wpAnyH_ready (rs := [13]) (by kernel_rfl) (by simp) ?_
        refine AllReadyH.cons (o := { dst := some 78, op := Go.Op.convert 9 70 (Go.Operand.tmp 77), type := 70, pos := "outright.go:20", after := #[{ on := 12, ground := Go.Ground.data }], guard := none }) rfl (fun K hK => ?_) AllReadyH.nil
        (try have hBl := blkLt hz1.out); obtain ⟨c9, ab, w1, hcv, hb1, hbt, hadB, had⟩ := conv_at hHeld ((S1 ++ S2) ++ S3); have hbt := hid hbt; (try have hz1 := hid (blkB hz1.out hb1)); (try have hne := hid (Nat.ne_of_gt (Nat.lt_of_lt_of_eq hBl hadB.symm))); have hadw := hid (show wb.heap.size ≤ ab by rw [hadB]; exact hHeld.1.size); clear hadB
        go_simp
        refine hK.out _ _ ?_ (fun hHeld => ?_)
        · (try dsimp only); exact keepX12 HC.out (hHeld.1.trans (hb1.mono hHeld.1.size))
        clear hK K
        try simp only [Act.put, List.setIfInBounds_toArray, List.set_cons_zero, List.set_cons_succ]
        refine wpAnyH_ready (rs := [15]) (by kernel_rfl) (by simp) ?_
        refine AllReadyH.cons (o := { dst := none, op := Go.Op.store 70 (Go.Operand.tmp 6) (Go.Operand.tmp 78), type := 0, pos := "outright.go:20", after := #[{ on := 14, ground := Go.Ground.data }, { on := 13, ground := Go.Ground.data }, { on := 11, ground := Go.Ground.chain }, { on := 0, ground := Go.Ground.phase }, { on := 1, ground := Go.Ground.phase }, { on := 2, ground := Go.Ground.phase }, { on := 3, ground := Go.Ground.phase }, { on := 4, ground := Go.Ground.phase }, { on := 5, ground := Go.Ground.phase }, { on := 6, ground := Go.Ground.phase }, { on := 7, ground := Go.Ground.phase }, { on := 8, ground := Go.Ground.phase }, { on := 9, ground := Go.Ground.phase }, { on := 10, ground := Go.Ground.phase }, { on := 11, ground := Go.Ground.phase }, { on := 12, ground := Go.Ground.phase }, { on := 13, ground := Go.Ground.phase }, { on := 14, ground := Go.Ground.phase }], guard := none }) rfl (fun K hK => ?_) AllReadyH.nil
        obtain ⟨z0, f0⟩ := one_at hz1.out
        go_simp
        refine hK.out _ _ ?_ (fun hHeld => ?_)
        · (try dsimp only); exact keepX12 HC.out (hHeld.1.setCell (p := ⟨B, 0, none⟩) hBw _)
        clear hK K
        try simp only [Act.put, List.setIfInBounds_toArray, List.set_cons_zero, List.set_cons_succ]
        refine wpAnyH_done (by kernel_rfl) ?_ _
        refine NoPanic.normal ?_
        exact HQ.out _ _ _ _ _ _ _ _ _ _ _ _ _ _ B ab c9 _ hHeld.1 hBw (by have e := HSS.out.1; simp only [ByteArray.size_append] at e; rw [← e]; go_simp) ((World.frozen?_setCell _ _ _ _).trans f0) ((show BytesAt (some ⟨ab, 0, none⟩) (allB3 p r gv gm tv tm ta tb n) _ from HSS.out.2 ▸ hbt.out).set (fun a e => by cases e; show ab ≠ B; exact hne.out) _) hne.out hadw.out (by simpa using had)
      exact AllReadyH.nil
    refine AllReadyH.cons (o := { dst := some 6, op := Go.Op.alloc 70, type := 0, pos := "outright.go:20", after := #[], guard := none }) rfl (fun K hK => ?_) ?_
    · go_simp
      obtain ⟨w1, B, e1, e2, hz1, hb1, hBw⟩ := newC hHeld; (try simp only [show ∀ W : World, W.drew.heap.size = W.heap.size from fun _ => rfl] at e2); have hz1 := hid hz1; (try have hne := hid (show ab ≠ B by rw [← e2]; exact Nat.ne_of_lt had)); (try have hbt := hid (hbt.out.below hb1)); (try have had := Nat.lt_of_lt_of_le had hb1.size); (first | rw [e1, e2] | rw [show (w.alloc (.cells #[.slice none 0 0] 70)).drew = w1 from e1, e2]); clear e1 e2
      refine hK.out _ _ ?_ (fun hHeld => ?_)
      · (try dsimp only); exact keepX12 HC.out (hHeld.1.trans (hb1.mono hHeld.1.size))
      clear hK K
      try simp only [Act.put, List.setIfInBounds_toArray, List.set_cons_zero, List.set_cons_succ]
      refine wpAnyH_ready (rs := [6]) (by kernel_rfl) (by simp) ?_
      refine AllReadyH.cons (o := { dst := some 71, op := Go.Op.call { callee := Go.Callee.value (Go.Operand.func 41), args := #[Go.Operand.tmp 70], argTypes := #[51] }, type := 9, pos := "outright.go:20", after := #[{ on := 5, ground := Go.Ground.data }, { on := 3, ground := Go.Ground.chain }], guard := none }) rfl (fun K hK => ?_) AllReadyH.nil
      go_simp
      go_at_call 41; (with_reducible refine (HR2.out _).mono ?_); rintro e w1 ⟨rfl, hb1⟩; (try have hz1 := hid (blkB hz1.out hb1)); (try have hbt := hid (hbt.out.below hb1)); (try have had := Nat.lt_of_lt_of_le had hb1.size)
      refine hK.out _ _ ?_ (fun hHeld => ?_)
      · (try dsimp only); exact keepX12 HC.out (hHeld.1.trans (hb1.mono hHeld.1.size))
      clear hK K
      try simp only [Act.put, List.setIfInBounds_toArray, List.set_cons_zero, List.set_cons_succ]
      refine wpAnyH_take (i := 7) (oi := { dst := some 72, op := Go.Op.binOp Go.BinOp.add 9 (Go.Operand.tmp 68) (Go.Operand.tmp 71) 9, type := 9, pos := "outright.go:20", after := #[{ on := 3, ground := Go.Ground.data }, { on := 6, ground := Go.Ground.data }], guard := none }) (v := ?_) rfl (by kernel_rfl) (by kernel_rfl) (by kernel_rfl) (fun _ _ _ h => h) (Or.inl ⟨by rfl, ?hya13⟩) (by assumption) ?resta13
      case hya13 => (intro w hSw; (try dsimp only at hSw); go_simp; first | (with_reducible rfl) | (rw [if_neg (by omega)]) | skip)
      simp only [Act.put, List.setIfInBounds_toArray, List.set_cons_zero, List.set_cons_succ]
      refine wpAnyH_ready (rs := [11]) (by kernel_rfl) (by simp) ?_
      refine AllReadyH.cons (o := { dst := some 76, op := Go.Op.call { callee := Go.Callee.value (Go.Operand.func 39), args := #[Go.Operand.tmp 74, Go.Operand.tmp 75], argTypes := #[49, 3] }, type := 9, pos := "outright.go:20", after := #[{ on := 9, ground := Go.Ground.data }, { on := 10, ground := Go.Ground.data }, { on := 6, ground := Go.Ground.chain }], guard := none }) rfl (fun K hK => ?_) AllReadyH.nil
      go_simp
      go_at_call 39; (with_reducible refine (HR3.out _).mono ?_); rintro e w1 ⟨rfl, hb1⟩; (try have hz1 := hid (blkB hz1.out hb1)); (try have hbt := hid (hbt.out.below hb1)); (try have had := Nat.lt_of_lt_of_le had hb1.size)
      refine hK.out _ _ ?_ (fun hHeld => ?_)
      · (try dsimp only); exact keepX12 HC.out (hHeld.1.trans (hb1.mono hHeld.1.size))
      clear hK K
      try simp only [Act.put, List.setIfInBounds_toArray, List.set_cons_zero, List.set_cons_succ]
      refine wpAnyH_take (i := 12) (oi := { dst := some 77, op := Go.Op.binOp Go.BinOp.add 9 (Go.Operand.tmp 72) (Go.Operand.tmp 76) 9, type := 9, pos := "outright.go:20", after := #[{ on := 7, ground := Go.Ground.data }, { on := 11, ground := Go.Ground.data }], guard := none }) (v := ?_) rfl (by kernel_rfl) (by kernel_rfl) (by kernel_rfl) (fun _ _ _ h => h) (Or.inl ⟨by rfl, ?hya14⟩) (by assumption) ?resta14
      case hya14 => (intro w hSw; (try dsimp only at hSw); go_simp; first | (with_reducible rfl) | (rw [if_neg (by omega)]) | skip)
      simp only [Act.put, List.setIfInBounds_toArray, List.set_cons_zero, List.set_cons_succ]
      refine wpAnyH_ready (rs := [13]) (by kernel_rfl) (by simp) ?_
      refine AllReadyH.cons (o := { dst := some 78, op := Go.Op.convert 9 70 (Go.Operand.tmp 77), type := 70, pos := "outright.go:20", after := #[{ on := 12, ground := Go.Ground.data }], guard := none }) rfl (fun K hK => ?_) AllReadyH.nil
      (try have hBl := blkLt hz1.out); obtain ⟨c9, ab, w1, hcv, hb1, hbt, hadB, had⟩ := conv_at hHeld ((S1 ++ S2) ++ S3); have hbt := hid hbt; (try have hz1 := hid (blkB hz1.out hb1)); (try have hne := hid (Nat.ne_of_gt (Nat.lt_of_lt_of_eq hBl hadB.symm))); have hadw := hid (show wb.heap.size ≤ ab by rw [hadB]; exact hHeld.1.size); clear hadB
      go_simp
      refine hK.out _ _ ?_ (fun hHeld => ?_)
      · (try dsimp only); exact keepX12 HC.out (hHeld.1.trans (hb1.mono hHeld.1.size))
      clear hK K
      try simp only [Act.put, List.setIfInBounds_toArray, List.set_cons_zero, List.set_cons_succ]
      refine wpAnyH_ready (rs := [15]) (by kernel_rfl) (by simp) ?_
      refine AllReadyH.cons (o := { dst := none, op := Go.Op.store 70 (Go.Operand.tmp 6) (Go.Operand.tmp 78), type := 0, pos := "outright.go:20", after := #[{ on := 14, ground := Go.Ground.data }, { on := 13, ground := Go.Ground.data }, { on := 11, ground := Go.Ground.chain }, { on := 0, ground := Go.Ground.phase }, { on := 1, ground := Go.Ground.phase }, { on := 2, ground := Go.Ground.phase }, { on := 3, ground := Go.Ground.phase }, { on := 4, ground := Go.Ground.phase }, { on := 5, ground := Go.Ground.phase }, { on := 6, ground := Go.Ground.phase }, { on := 7, ground := Go.Ground.phase }, { on := 8, ground := Go.Ground.phase }, { on := 9, ground := Go.Ground.phase }, { on := 10, ground := Go.Ground.phase }, { on := 11, ground := Go.Ground.phase }, { on := 12, ground := Go.Ground.phase }, { on := 13, ground := Go.Ground.phase }, { on := 14, ground := Go.Ground.phase }], guard := none }) rfl (fun K hK => ?_) AllReadyH.nil
      obtain ⟨z0, f0⟩ := one_at hz1.out
      go_simp
      refine hK.out _ _ ?_ (fun hHeld => ?_)
      · (try dsimp only); exact keepX12 HC.out (hHeld.1.setCell (p := ⟨B, 0, none⟩) hBw _)
      clear hK K
      try simp only [Act.put, List.setIfInBounds_toArray, List.set_cons_zero, List.set_cons_succ]
      refine wpAnyH_done (by kernel_rfl) ?_ _
      refine NoPanic.normal ?_
      exact HQ.out _ _ _ _ _ _ _ _ _ _ _ _ _ _ B ab c9 _ hHeld.1 hBw (by have e := HSS.out.1; simp only [ByteArray.size_append] at e; rw [← e]; go_simp) ((World.frozen?_setCell _ _ _ _).trans f0) ((show BytesAt (some ⟨ab, 0, none⟩) (allB3 p r gv gm tv tm ta tb n) _ from HSS.out.2 ▸ hbt.out).set (fun a e => by cases e; show ab ≠ B; exact hne.out) _) hne.out hadw.out (by simpa using had)
    exact AllReadyH.nil
  refine AllReadyH.cons (o := { dst := some 6, op := Go.Op.alloc 70, type := 0, pos := "outright.go:20", after := #[], guard := none }) rfl (fun K hK => ?_) ?_
  · go_simp
    obtain ⟨w1, B, e1, e2, hz1, hb1, hBw⟩ := newC hHeld; (try simp only [show ∀ W : World, W.drew.heap.size = W.heap.size from fun _ => rfl] at e2); have hz1 := hid hz1; (try have hne := hid (show ab ≠ B by rw [← e2]; exact Nat.ne_of_lt had)); (try have hbt := hid (hbt.out.below hb1)); (try have had := Nat.lt_of_lt_of_le had hb1.size); (first | rw [e1, e2] | rw [show (w.alloc (.cells #[.slice none 0 0] 70)).drew = w1 from e1, e2]); clear e1 e2
    refine hK.out _ _ ?_ (fun hHeld => ?_)
    · (try dsimp only); exact keepX12 HC.out (hHeld.1.trans (hb1.mono hHeld.1.size))
    clear hK K
    try simp only [Act.put, List.setIfInBounds_toArray, List.set_cons_zero, List.set_cons_succ]
    refine wpAnyH_ready (rs := [3]) (by kernel_rfl) (by simp) ?_
    refine AllReadyH.cons (o := { dst := some 68, op := Go.Op.call { callee := Go.Callee.value (Go.Operand.func 33), args := #[Go.Operand.tmp 66, Go.Operand.tmp 67], argTypes := #[44, 3] }, type := 9, pos := "outright.go:20", after := #[{ on := 1, ground := Go.Ground.data }, { on := 2, ground := Go.Ground.data }], guard := none }) rfl (fun K hK => ?_) AllReadyH.nil
    go_simp
    go_at_call 33; (with_reducible refine (HR1.out _).mono ?_); rintro e w1 ⟨rfl, hb1⟩; (try have hz1 := hid (blkB hz1.out hb1)); (try have hbt := hid (hbt.out.below hb1)); (try have had := Nat.lt_of_lt_of_le had hb1.size)
    refine hK.out _ _ ?_ (fun hHeld => ?_)
    · (try dsimp only); exact keepX12 HC.out (hHeld.1.trans (hb1.mono hHeld.1.size))
    clear hK K
    try simp only [Act.put, List.setIfInBounds_toArray, List.set_cons_zero, List.set_cons_succ]
    refine wpAnyH_ready (rs := [6]) (by kernel_rfl) (by simp) ?_
    refine AllReadyH.cons (o := { dst := some 71, op := Go.Op.call { callee := Go.Callee.value (Go.Operand.func 41), args := #[Go.Operand.tmp 70], argTypes := #[51] }, type := 9, pos := "outright.go:20", after := #[{ on := 5, ground := Go.Ground.data }, { on := 3, ground := Go.Ground.chain }], guard := none }) rfl (fun K hK => ?_) AllReadyH.nil
    go_simp
    go_at_call 41; (with_reducible refine (HR2.out _).mono ?_); rintro e w1 ⟨rfl, hb1⟩; (try have hz1 := hid (blkB hz1.out hb1)); (try have hbt := hid (hbt.out.below hb1)); (try have had := Nat.lt_of_lt_of_le had hb1.size)
    refine hK.out _ _ ?_ (fun hHeld => ?_)
    · (try dsimp only); exact keepX12 HC.out (hHeld.1.trans (hb1.mono hHeld.1.size))
    clear hK K
    try simp only [Act.put, List.setIfInBounds_toArray, List.set_cons_zero, List.set_cons_succ]
    refine wpAnyH_take (i := 7) (oi := { dst := some 72, op := Go.Op.binOp Go.BinOp.add 9 (Go.Operand.tmp 68) (Go.Operand.tmp 71) 9, type := 9, pos := "outright.go:20", after := #[{ on := 3, ground := Go.Ground.data }, { on := 6, ground := Go.Ground.data }], guard := none }) (v := ?_) rfl (by kernel_rfl) (by kernel_rfl) (by kernel_rfl) (fun _ _ _ h => h) (Or.inl ⟨by rfl, ?hya15⟩) (by assumption) ?resta15
    case hya15 => (intro w hSw; (try dsimp only at hSw); go_simp; first | (with_reducible rfl) | (rw [if_neg (by omega)]) | skip)
    simp only [Act.put, List.setIfInBounds_toArray, List.set_cons_zero, List.set_cons_succ]
    refine wpAnyH_ready (rs := [11]) (by kernel_rfl) (by simp) ?_
    refine AllReadyH.cons (o := { dst := some 76, op := Go.Op.call { callee := Go.Callee.value (Go.Operand.func 39), args := #[Go.Operand.tmp 74, Go.Operand.tmp 75], argTypes := #[49, 3] }, type := 9, pos := "outright.go:20", after := #[{ on := 9, ground := Go.Ground.data }, { on := 10, ground := Go.Ground.data }, { on := 6, ground := Go.Ground.chain }], guard := none }) rfl (fun K hK => ?_) AllReadyH.nil
    go_simp
    go_at_call 39; (with_reducible refine (HR3.out _).mono ?_); rintro e w1 ⟨rfl, hb1⟩; (try have hz1 := hid (blkB hz1.out hb1)); (try have hbt := hid (hbt.out.below hb1)); (try have had := Nat.lt_of_lt_of_le had hb1.size)
    refine hK.out _ _ ?_ (fun hHeld => ?_)
    · (try dsimp only); exact keepX12 HC.out (hHeld.1.trans (hb1.mono hHeld.1.size))
    clear hK K
    try simp only [Act.put, List.setIfInBounds_toArray, List.set_cons_zero, List.set_cons_succ]
    refine wpAnyH_take (i := 12) (oi := { dst := some 77, op := Go.Op.binOp Go.BinOp.add 9 (Go.Operand.tmp 72) (Go.Operand.tmp 76) 9, type := 9, pos := "outright.go:20", after := #[{ on := 7, ground := Go.Ground.data }, { on := 11, ground := Go.Ground.data }], guard := none }) (v := ?_) rfl (by kernel_rfl) (by kernel_rfl) (by kernel_rfl) (fun _ _ _ h => h) (Or.inl ⟨by rfl, ?hya16⟩) (by assumption) ?resta16
    case hya16 => (intro w hSw; (try dsimp only at hSw); go_simp; first | (with_reducible rfl) | (rw [if_neg (by omega)]) | skip)
    simp only [Act.put, List.setIfInBounds_toArray, List.set_cons_zero, List.set_cons_succ]
    refine wpAnyH_ready (rs := [13]) (by kernel_rfl) (by simp) ?_
    refine AllReadyH.cons (o := { dst := some 78, op := Go.Op.convert 9 70 (Go.Operand.tmp 77), type := 70, pos := "outright.go:20", after := #[{ on := 12, ground := Go.Ground.data }], guard := none }) rfl (fun K hK => ?_) AllReadyH.nil
    (try have hBl := blkLt hz1.out); obtain ⟨c9, ab, w1, hcv, hb1, hbt, hadB, had⟩ := conv_at hHeld ((S1 ++ S2) ++ S3); have hbt := hid hbt; (try have hz1 := hid (blkB hz1.out hb1)); (try have hne := hid (Nat.ne_of_gt (Nat.lt_of_lt_of_eq hBl hadB.symm))); have hadw := hid (show wb.heap.size ≤ ab by rw [hadB]; exact hHeld.1.size); clear hadB
    go_simp
    refine hK.out _ _ ?_ (fun hHeld => ?_)
    · (try dsimp only); exact keepX12 HC.out (hHeld.1.trans (hb1.mono hHeld.1.size))
    clear hK K
    try simp only [Act.put, List.setIfInBounds_toArray, List.set_cons_zero, List.set_cons_succ]
    refine wpAnyH_ready (rs := [15]) (by kernel_rfl) (by simp) ?_
    refine AllReadyH.cons (o := { dst := none, op := Go.Op.store 70 (Go.Operand.tmp 6) (Go.Operand.tmp 78), type := 0, pos := "outright.go:20", after := #[{ on := 14, ground := Go.Ground.data }, { on := 13, ground := Go.Ground.data }, { on := 11, ground := Go.Ground.chain }, { on := 0, ground := Go.Ground.phase }, { on := 1, ground := Go.Ground.phase }, { on := 2, ground := Go.Ground.phase }, { on := 3, ground := Go.Ground.phase }, { on := 4, ground := Go.Ground.phase }, { on := 5, ground := Go.Ground.phase }, { on := 6, ground := Go.Ground.phase }, { on := 7, ground := Go.Ground.phase }, { on := 8, ground := Go.Ground.phase }, { on := 9, ground := Go.Ground.phase }, { on := 10, ground := Go.Ground.phase }, { on := 11, ground := Go.Ground.phase }, { on := 12, ground := Go.Ground.phase }, { on := 13, ground := Go.Ground.phase }, { on := 14, ground := Go.Ground.phase }], guard := none }) rfl (fun K hK => ?_) AllReadyH.nil
    obtain ⟨z0, f0⟩ := one_at hz1.out
    go_simp
    refine hK.out _ _ ?_ (fun hHeld => ?_)
    · (try dsimp only); exact keepX12 HC.out (hHeld.1.setCell (p := ⟨B, 0, none⟩) hBw _)
    clear hK K
    try simp only [Act.put, List.setIfInBounds_toArray, List.set_cons_zero, List.set_cons_succ]
    refine wpAnyH_done (by kernel_rfl) ?_ _
    refine NoPanic.normal ?_
    exact HQ.out _ _ _ _ _ _ _ _ _ _ _ _ _ _ B ab c9 _ hHeld.1 hBw (by have e := HSS.out.1; simp only [ByteArray.size_append] at e; rw [← e]; go_simp) ((World.frozen?_setCell _ _ _ _).trans f0) ((show BytesAt (some ⟨ab, 0, none⟩) (allB3 p r gv gm tv tm ta tb n) _ from HSS.out.2 ▸ hbt.out).set (fun a e => by cases e; show ab ≠ B; exact hne.out) _) hne.out hadw.out (by simpa using had)
  exact AllReadyH.nil
end Go.Proofs.YtiohiiekaofkbaaDoor
