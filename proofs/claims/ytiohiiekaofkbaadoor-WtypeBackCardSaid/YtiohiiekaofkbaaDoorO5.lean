/- Types as they come in, opened. -/
import Derived.Test.YtiohiiekaofkbaaDoorW3
import Derived.Lib.SmallJoins
import Derived.SizedLaws
import Derived.ChangeOld
import Derived.ShutString
import Derived.ProofKit
import Derived.OpenShut
import Derived.ChangeMaps5
namespace Go.Proofs.YtiohiiekaofkbaaDoor
set_option linter.unusedVariables false
set_option linter.unusedSimpArgs false
open Go.RowKit Go.ChangeShapes Go.WideShapes Go.Deep Go.Lib

section
variable {H : Type} {enc : TypeId × Value → H} {W : World} {base : Nat} {spare : Nat → Bool} {held : Bool}
theorem kc4 : Tryd.prog.cellsOf 4 = 1 := by kernel_rfl
theorem kc5 : Tryd.prog.cellsOf 5 = 1 := by kernel_rfl
theorem kc9 : Tryd.prog.cellsOf 9 = 1 := by kernel_rfl
theorem kcu : Tryd.prog.cellsOf 45 = 1 := by kernel_rfl
theorem kcF : Tryd.prog.cellsOf 44 = 2 := by kernel_rfl
theorem kcL : Tryd.prog.cellsOf 47 = 3 := by kernel_rfl
theorem kcT : Tryd.prog.cellsOf 49 = 4 := by kernel_rfl
theorem kcG : Tryd.prog.cellsOf 51 = 2 := by kernel_rfl
theorem op_func {n : Nat} {c0 c1 : Value} {x : DataW H × List MemPlace} (h : DataW.trod enc Tryd.prog W base spare held n 44 [c0, c1] = some x) : ∃ s u, c0 = .string s ∧ c1 = .string u := by
  obtain ⟨y0, y1, n', rfl, hlen, g0, g1⟩ := trod_struct2 Tryd.underlying44 h
  simp [kc9] at g0 g1
  obtain ⟨s, e0, _⟩ := DataW.trod_string Tryd.underlying9 g0
  obtain ⟨u, e1, _⟩ := DataW.trod_string Tryd.underlying9 g1
  simp at e0 e1
  exact ⟨s, u, e0, e1⟩
theorem op_lim {n : Nat} {c0 c1 c2 : Value} {x : DataW H × List MemPlace} (h : DataW.trod enc Tryd.prog W base spare held n 47 [c0, c1, c2] = some x) : ∃ m a b, c0 = .bool m ∧ c1 = .int .u32 a ∧ c2 = .int .u32 b ∧ (Lit.int .u32 a).wf = true ∧ (Lit.int .u32 b).wf = true := by
  obtain ⟨xs, n', _, hx, _, hlen, hg⟩ := DataW.trod_struct Tryd.underlying47 h
  match xs, hlen with
  | [y0, y1, y2], _ =>
    have g0 := hg 0 _ rfl
    have g1 := hg 1 _ rfl
    have g2 := hg 2 _ rfl
    simp [kc4, kcu] at g0 g1 g2
    obtain ⟨m, e0, _⟩ := DataW.trod_bool Tryd.underlying4 g0
    obtain ⟨a, e1, _, wa⟩ := DataW.trod_int Tryd.underlying45 g1
    obtain ⟨b, e2, _, wb⟩ := DataW.trod_int Tryd.underlying45 g2
    simp at e0 e1 e2
    exact ⟨m, a, b, e0, e1, e2, wa, wb⟩
theorem op_tab {n : Nat} {c0 c1 c2 c3 : Value} {x : DataW H × List MemPlace} (h : DataW.trod enc Tryd.prog W base spare held n 49 [c0, c1, c2, c3] = some x) : ∃ v m a b, c0 = .int .u8 v ∧ c1 = .bool m ∧ c2 = .int .u32 a ∧ c3 = .int .u32 b ∧ (Lit.int .u8 v).wf = true ∧ (Lit.int .u32 a).wf = true ∧ (Lit.int .u32 b).wf = true := by
  obtain ⟨y0, y1, n', rfl, hlen, g0, g1⟩ := trod_struct2 Tryd.underlying49 h
  simp [kc5, kcL] at g0 g1
  obtain ⟨v, e0, _, wv⟩ := DataW.trod_int Tryd.underlying5 g0
  obtain ⟨m, a, b, e1, e2, e3, wa, wb⟩ := op_lim g1
  simp at e0
  exact ⟨v, m, a, b, e0, e1, e2, e3, wv, wa, wb⟩
theorem op_glob {n : Nat} {c0 c1 : Value} {x : DataW H × List MemPlace} (h : DataW.trod enc Tryd.prog W base spare held n 51 [c0, c1] = some x) : ∃ v m, c0 = .int .u8 v ∧ c1 = .bool m ∧ (Lit.int .u8 v).wf = true := by
  obtain ⟨y0, y1, n', rfl, hlen, g0, g1⟩ := trod_struct2 Tryd.underlying51 h
  simp [kc5, kc4] at g0 g1
  obtain ⟨v, e0, _, wv⟩ := DataW.trod_int Tryd.underlying5 g0
  obtain ⟨m, e1, _⟩ := DataW.trod_bool Tryd.underlying4 g1
  simp at e0 e1
  exact ⟨v, m, e0, e1, wv⟩
end
theorem array12 {α : Type} {cs : Array α} (h : cs.size = 12) : ∃ c0 c1 c2 c3 c4 c5 c6 c7 c8 c9 c10 c11, cs = #[c0, c1, c2, c3, c4, c5, c6, c7, c8, c9, c10, c11] := by
  obtain ⟨l⟩ := cs
  match l, h with
  | [c0, c1, c2, c3, c4, c5, c6, c7, c8, c9, c10, c11], _ => exact ⟨c0, c1, c2, c3, c4, c5, c6, c7, c8, c9, c10, c11, rfl⟩
theorem array2 {α : Type} {cs : Array α} (h : cs.size = 2) : ∃ c0 c1, cs = #[c0, c1] := by
  obtain ⟨l⟩ := cs
  match l, h with
  | [c0, c1], _ => exact ⟨c0, c1, rfl⟩
set_option maxRecDepth 100000 in
theorem open_types {H : Type} {enc : TypeId × Value → H} {W : World} {base b0 : Nat} {spare : Nat → Bool} {held : Bool} {r : Reach} {v : Value} {d : DataW H} {p : List MemPlace}
    (hv : Value.okWide Tryd.prog W r b0 53 v) (h : DataW.Trod enc Tryd.prog W base spare held 53 v d p) :
    ∃ vv ps rs lm la lb tv tm ta tb gv gm, v = .agg #[.int .u8 vv, .string ps, .string rs, .bool lm, .int .u32 la, .int .u32 lb, .int .u8 tv, .bool tm, .int .u32 ta, .int .u32 tb, .int .u8 gv, .bool gm] ∧
      (Lit.int .u8 vv).wf = true ∧ (Lit.int .u32 la).wf = true ∧ (Lit.int .u32 lb).wf = true ∧ (Lit.int .u8 tv).wf = true ∧ (Lit.int .u32 ta).wf = true ∧ (Lit.int .u32 tb).wf = true ∧ (Lit.int .u8 gv).wf = true := by
  obtain ⟨cs, rfl, hsz⟩ := okWide_struct Tryd.underlying53 hv
  have hC : Tryd.prog.cellsOf 53 = 12 := by kernel_rfl
  obtain ⟨c0, c1, c2, c3, c4, c5, c6, c7, c8, c9, c10, c11, rfl⟩ := array12 (hsz.trans hC)
  obtain ⟨fuel, hf⟩ := h
  obtain ⟨xs, n, _, hx, _, hlen, hg⟩ := DataW.trod_struct Tryd.underlying53 hf
  match xs, hlen with
  | [y0, y1, y2, y3, y4], _ =>
    have g0 := hg 0 _ rfl
    have g1 := hg 1 _ rfl
    have g2 := hg 2 _ rfl
    have g3 := hg 3 _ rfl
    have g4 := hg 4 _ rfl
    simp [Value.cells, kc5, kcF, kcL, kcT, kcG] at g0 g1 g2 g3 g4
    obtain ⟨vv, e0, _, w0⟩ := DataW.trod_int Tryd.underlying5 g0
    obtain ⟨ps, rs, e1, e2⟩ := op_func g1
    obtain ⟨lm, la, lb, e3, e4, e5, w1, w2⟩ := op_lim g2
    obtain ⟨tv, tm, ta, tb, e6, e7, e8, e9, w3, w4, w5⟩ := op_tab g3
    obtain ⟨gv, gm, e10, e11, w6⟩ := op_glob g4
    simp at e0
    subst e0 e1 e2 e3 e4 e5 e6 e7 e8 e9 e10 e11
    exact ⟨vv, ps, rs, lm, la, lb, tv, tm, ta, tb, gv, gm, rfl, w0, w1, w2, w3, w4, w5, w6⟩
set_option maxRecDepth 100000 in
theorem open_func {H : Type} {enc : TypeId × Value → H} {W : World} {base b0 : Nat} {spare : Nat → Bool} {held : Bool} {r : Reach} {v : Value} {d : DataW H} {p : List MemPlace}
    (hv : Value.okWide Tryd.prog W r b0 44 v) (h : DataW.Trod enc Tryd.prog W base spare held 44 v d p) : ∃ s u, v = .agg #[.string s, .string u] := by
  obtain ⟨cs, rfl, hsz⟩ := okWide_struct Tryd.underlying44 hv
  obtain ⟨c0, c1, rfl⟩ := array2 (hsz.trans kcF)
  obtain ⟨fuel, hf⟩ := h
  obtain ⟨s, u, rfl, rfl⟩ := op_func hf
  exact ⟨s, u, rfl⟩
end Go.Proofs.YtiohiiekaofkbaaDoor
