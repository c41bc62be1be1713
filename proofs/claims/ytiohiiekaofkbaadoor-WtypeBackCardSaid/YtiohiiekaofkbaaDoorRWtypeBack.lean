/-
  What is put of any types is read as it was, one behind the other, within just as many bytes as there are, also with the numbers in more bytes (of lists of 300 at most; longer ones are let go); the chapter's example holds. No condition beyond the row's own.
-/
import Derived.Test.YtiohiiekaofkbaaDoorRows
import Derived.Test.YtiohiiekaofkbaaDoorCards
import Derived.Test.YtiohiiekaofkbaaDoorTie
import Derived.Test.YtiohiiekaofkbaaDoorW17
import Derived.Test.YtiohiiekaofkbaaDoorO5
import Derived.LaidMore
import Derived.Stop.Joined
namespace Go.Proofs.YtiohiiekaofkbaaDoor
set_option linter.unusedVariables false
set_option linter.unusedSimpArgs false
open Go.ChangeShapes Go.WideShapes Go.ChangeAt Go.RowKit Go.Joins Go.ChangeMaps

theorem ownKn : ownKnob Tryd.prog.godebug = none := by kernel_rfl
theorem laidOutP : laidOutB Tryd.prog = true := by kernel_rfl
theorem kcS : Tryd.prog.cellsOf 85 = 2 := by kernel_rfl
theorem kc3 : Tryd.prog.cellsOf 3 = 1 := by kernel_rfl
theorem gNone : Tryd.prog.globalNamed "dobby/span.none" = some 5 := by kernel_rfl
theorem gNum : Tryd.prog.globalNamed "dobby/wtype.number" = some 3 := by kernel_rfl
theorem gOne : Tryd.prog.globalNamed "dobby/wtype.one" = some 4 := by kernel_rfl
theorem gSome : Tryd.prog.globalNamed "dobby/wtype.some" = some 0 := by kernel_rfl
theorem tNone : (Tryd.prog.globals[5]?).map (·.type) = some 174 := by kernel_rfl
theorem tNum : (Tryd.prog.globals[3]?).map (·.type) = some 85 := by kernel_rfl
theorem tOne : (Tryd.prog.globals[4]?).map (·.type) = some 85 := by kernel_rfl
theorem tSome : (Tryd.prog.globals[0]?).map (·.type) = some 85 := by kernel_rfl
theorem kcR : Tryd.prog.cellsOf 174 = 2 := by kernel_rfl
theorem kcu64 : Tryd.prog.cellsOf 111 = 1 := by kernel_rfl
def zeroArgs : Array Value := #[.agg #[.int .u8 0, .string ByteArray.empty, .string ByteArray.empty, .bool false, .int .u32 0, .int .u32 0, .int .u8 0, .bool false, .int .u32 0, .int .u32 0, .int .u8 0, .bool false], .int .u8 0]
theorem door_met (os : Os) (args : Array Value) : laidMetH Tryd.prog Rows.wtypeBackRow.laid ((World.doorLaid Tryd.prog 400 os).forCall (fun _ _ => 0) ⟨#[], args, []⟩).memory :=
  laidMetH_of_parts3 (fuel := 8) (laidMet_of_run' 8 (by kernel_rfl) (by kernel_rfl)) (by kernel_rfl) (by kernel_rfl)
set_option maxRecDepth 100000 in
theorem laid_span {W : World} {n : String} {a b : Int} {rest : List (String × DataW Unit)} {ps : List MemPlace} {g : Nat} (h : DataW.LaidVars Tryd.prog W ((n, .agg [.lit (.int .i64 a), .lit (.int .i64 b)]) :: rest) ps) (hn : Tryd.prog.globalNamed n = some g) (ht : (Tryd.prog.globals[g]?).map (·.type) = some 85) :
    W.cell? ⟨g, 0, none⟩ = some (.int .i64 a) ∧ W.cell? ⟨g, 1, none⟩ = some (.int .i64 b) ∧ ∃ qs, DataW.LaidVars Tryd.prog W rest qs := by
  obtain ⟨g0, t0, cs0, f0, p0, q0, hg0, ht0, hv0, hd0, hrest, _⟩ := h
  obtain rfl := Option.some.inj (hn.symm.trans hg0)
  obtain rfl := Option.some.inj (ht.symm.trans ht0)
  obtain ⟨y0, y1, n, hx, hlen, h0, h1⟩ := trod_struct2 Tryd.underlying85 hd0
  obtain ⟨c, e0, ea, _⟩ := DataW.trod_int Tryd.underlying3 h0
  obtain ⟨d, e1, eb, _⟩ := DataW.trod_int Tryd.underlying3 h1
  rw [kcS] at hlen
  rw [kc3] at e0 e1
  simp only [Prod.mk.injEq, DataW.agg.injEq, List.cons.injEq] at hx
  obtain ⟨⟨hx0, hx1, _⟩, _⟩ := hx
  rw [ea] at hx0
  rw [eb] at hx1
  have ha : c = a := by simpa using hx0.symm
  have hb : d = b := by simpa using hx1.symm
  subst ha hb
  have v0 := World.var?_cell hg0 hv0 0
  have v1 := World.var?_cell hg0 hv0 1
  obtain ⟨l⟩ := cs0
  match l, hlen, e0, e1 with
  | [x0, x1], _, e0, e1 =>
    simp at e0 e1
    subst e0 e1
    exact ⟨by simpa using v0, by simpa using v1, _, hrest⟩
set_option maxRecDepth 100000 in
theorem laid_range {W : World} {n : String} {a b : Int} {rest : List (String × DataW Unit)} {ps : List MemPlace} {g : Nat} (h : DataW.LaidVars Tryd.prog W ((n, .agg [.lit (.int .u64 a), .lit (.int .u64 b)]) :: rest) ps) (hn : Tryd.prog.globalNamed n = some g) (ht : (Tryd.prog.globals[g]?).map (·.type) = some 174) :
    W.cell? ⟨g, 0, none⟩ = some (.int .u64 a) ∧ W.cell? ⟨g, 1, none⟩ = some (.int .u64 b) ∧ ∃ qs, DataW.LaidVars Tryd.prog W rest qs := by
  obtain ⟨g0, t0, cs0, f0, p0, q0, hg0, ht0, hv0, hd0, hrest, _⟩ := h
  obtain rfl := Option.some.inj (hn.symm.trans hg0)
  obtain rfl := Option.some.inj (ht.symm.trans ht0)
  obtain ⟨y0, y1, n, hx, hlen, h0, h1⟩ := trod_struct2 Tryd.underlying174 hd0
  obtain ⟨c, e0, ea, _⟩ := DataW.trod_int Tryd.underlying111 h0
  obtain ⟨d, e1, eb, _⟩ := DataW.trod_int Tryd.underlying111 h1
  rw [kcR] at hlen
  rw [kcu64] at e0 e1
  simp only [Prod.mk.injEq, DataW.agg.injEq, List.cons.injEq] at hx
  obtain ⟨⟨hx0, hx1, _⟩, _⟩ := hx
  rw [ea] at hx0
  rw [eb] at hx1
  have ha : c = a := by simpa using hx0.symm
  have hb : d = b := by simpa using hx1.symm
  subst ha hb
  have v0 := World.var?_cell hg0 hv0 0
  have v1 := World.var?_cell hg0 hv0 1
  obtain ⟨l⟩ := cs0
  match l, hlen, e0, e1 with
  | [x0, x1], _, e0, e1 =>
    simp at e0 e1
    subst e0 e1
    exact ⟨by simpa using v0, by simpa using v1, _, hrest⟩
theorem globs_of_laid {W : World} (h : laidMetH Tryd.prog Rows.wtypeBackRow.laid W) : Glob W ∧ GlobO W ∧ GlobS W ∧ GlobN W ∧ 6 ≤ W.heap.size := by
  rw [MakeChecks.laidMetH_plain _ _ _ (by kernel_rfl)] at h
  obtain ⟨ps, h1, _⟩ := h
  obtain ⟨a0, a1, q1, h2⟩ := laid_range h1 gNone tNone
  obtain ⟨b0, b1, q2, h3⟩ := laid_span h2 gNum tNum
  obtain ⟨c0, c1, q3, h4⟩ := laid_span h3 gOne tOne
  obtain ⟨d0, d1, q4, h5⟩ := laid_span h4 gSome tSome
  exact ⟨⟨cell_lt a0, a0, a1⟩, ⟨c0, c1⟩, ⟨d0, d1⟩, ⟨b0, b1⟩, cell_lt a0⟩
set_option maxRecDepth 100000 in
theorem wback_lifted (os : Os) (started : os.Started) (H : Type) (enc : TypeId × Value → H) :
    ReturnsInHanded {} Tryd.checked os 5 .any (fun w args => (Rows.wtypeBackSpec.pre enc Tryd.prog Tryd.f5 [] false w args ∧ laidMetH Tryd.prog Rows.wtypeBackRow.laid w) ∧ sizedMet enc Tryd.prog Tryd.f5 (OpenSpec.ofChange Rows.wtypeBackSpec) false w args)
      (Rows.wtypeBackSpec.post enc Tryd.prog Tryd.f5 false true false false) := by
  refine returnsInHanded_of_change_and (C := Tryd.checked) (X := fun w _ => laidMetH Tryd.prog Rows.wtypeBackRow.laid w) (fun _ _ _ hh h => h.of_heap hh) ownKn started (by kernel_rfl) Tryd.func5
    (ChangeSpec.witness_shaped (enc := enc) (C := Tryd.checked) (os := os) (X := fun w _ => laidMetH Tryd.prog Rows.wtypeBackRow.laid w) false (World.doorLaid Tryd.prog 400 os) zeroArgs 8 rfl (World.shaped_of_RefB (by kernel_rfl) (by kernel_rfl)) (by kernel_rfl) (by kernel_rfl) (by kernel_rfl) (door_met os _)) ?_
  intro W base args ds gs before hval0 hW _ _ hL _
  have hval : ∀ (j : Nat) t v, Tryd.f5.params[j]? = some t → args[j]? = some v → Value.okWide Tryd.prog W .any base t v := hval0
  have hW' := hW
  obtain ⟨p, q, hA0, hV, rfl, hfz, hnd⟩ := hW
  have hA : DataW.TrodAll enc Tryd.prog W 0 (fun _ => true) true Tryd.f5.params.toList args.toList ds p := hA0
  rw [Tryd.params5] at hA hval
  obtain ⟨v0, v1, d0, d1, p0, p1, rfl, rfl, rfl, h0, h1⟩ := trodAll_two hA
  obtain ⟨rfl, rfl⟩ := trodVars_none hV
  obtain ⟨vv, ps, rs, lm, la, lb, tv, tm, ta, tb, gv, gm, rfl, w0, w1, w2, w3, w4, w5, w6⟩ := open_types (hval 0 53 v0 rfl rfl) h0
  obtain ⟨m, rfl, rfl, rfl, wm⟩ := open_int Tryd.underlying5 (hval 1 5 v1 rfl rfl) h1
  have k0 := h0
  have lt0 : ∀ z ∈ p0, z.block < W.heap.size := by obtain ⟨m, hm⟩ := k0; exact DataW.trod_lt m _ _ _ hm
  have hG := globs_of_laid hL
  clear hA0 hval0
  simp only [List.append_nil, List.nil_append] at hW'
  refine (wback_walk vv ps rs lm la lb tv tm ta tb gv gm m W hG.1 hG.2.1 hG.2.2.1 hG.2.2.2.1 hG.2.2.2.2 ⟨(bounds_u8 w3).1, by have := (bounds_u8 w3).2; omega⟩ ⟨(bounds_u8 w6).1, by have := (bounds_u8 w6).2; omega⟩ (bounds_u8 wm).1 (by have := (bounds_u8 wm).2; omega) (bounds_u32 w4).1 (bounds_u32 w4).2 (bounds_u32 w5).1 (bounds_u32 w5).2).mono fun r W' ⟨he, bel⟩ => ?_
  subst he
  exact ⟨_, rfl, _, _, _, [], _, [], hW', trodAll_mk1 (shut_bool Tryd.underlying4 true), trodAll_mk2 (Below.trod laidOutP (by kernel_rfl) (of_decide_eq_true (by kernel_rfl)) k0 bel lt0) (shut_int Tryd.underlying5 wm), rfl, bel.frame _, fun h => by cases h⟩

theorem wback_row : Rows.WtypeBackSaid :=
  OpenClaim.holds_of_wide 5 Tryd.f5 rfl rfl rfl rfl rfl rfl rfl ⟨rfl, rfl, rfl, rfl, rfl⟩ rfl rfl rfl rfl rfl (by kernel_rfl) Tryd.func5 (by kernel_rfl)
    (of_decide_eq_true (by kernel_rfl)) (by unfold Func.isWrapper; rw [if_neg (of_decide_eq_false (by kernel_rfl))]; exact ⟨rfl, rfl⟩)
    (fun os started H enc _ => wback_lifted os started H enc)

theorem wtypeBack_card : Rows.WtypeBackCardSaid :=
  Claim7.holds_tied_plain_at .later [] [.data, .wider, .data, .wider] true (true, "fcf1235884862032841f8b0b17408dd3da3984c4711139cd5fd47707b07d6eaf") true
    wback_row (fun _ h => by cases h) (by kernel_rfl) (fun _ h => by cases h) wtypeBack_row_tie rfl ⟨rfl, rfl⟩ (by kernel_rfl) rfl
    (fun f fn hf hfn => by
      obtain rfl : f = 5 := Option.some.inj ((show Tryd.prog.funcNamed "dobby/dobbylaw05.WtypeBack" = some 5 by kernel_rfl).symm.trans hf) |>.symm
      obtain rfl : fn = Tryd.f5 := (Option.some.inj (Tryd.func5.symm.trans hfn)).symm
      exact ⟨by kernel_rfl, fun j t ht => by
        rw [Tryd.params5] at ht
        have hm : t ∈ [53, 5] := by simpa using Array.mem_of_getElem? ht
        have hall : ([53, 5].all fun u => !Tryd.prog.wantsStandIn u) = true := by kernel_rfl
        exact (show Tryd.prog.wantsStandIn t = false by simpa using List.all_eq_true.1 hall t hm)⟩)
    (by kernel_rfl)
#print axioms wtypeBack_card
end Go.Proofs.YtiohiiekaofkbaaDoor
