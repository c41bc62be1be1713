/-
  For any types: whether they may be, their bytes, and whether two functions' types are the same, are what the document says (of lists of 300 at most; longer ones are let go); the chapter's example holds. No condition beyond the row's own.
-/
import Derived.Test.YtiohiiekaofkbaaDoorRows
import Derived.Test.YtiohiiekaofkbaaDoorCards
import Derived.Test.YtiohiiekaofkbaaDoorTie
import Derived.Test.YtiohiiekaofkbaaDoorO5
import Derived.LaidMore
import Derived.Stop.Joined
namespace Go.Proofs.YtiohiiekaofkbaaDoor
set_option linter.unusedVariables false
set_option linter.unusedSimpArgs false
open Go.ChangeShapes Go.WideShapes Go.ChangeAt Go.RowKit Go.Joins Go.ChangeMaps

theorem ownKn : ownKnob Tryd.prog.godebug = none := by kernel_rfl
theorem laidOutP : laidOutB Tryd.prog = true := by kernel_rfl
theorem gNum : Tryd.prog.globalNamed "dobby/wtype.number" = some 3 := by kernel_rfl
theorem tNum : (Tryd.prog.globals[3]?).map (·.type) = some 85 := by kernel_rfl
theorem kcS : Tryd.prog.cellsOf 85 = 2 := by kernel_rfl
theorem kc3 : Tryd.prog.cellsOf 3 = 1 := by kernel_rfl
def zeroArgs : Array Value := #[.agg #[.int .u8 0, .string ByteArray.empty, .string ByteArray.empty, .bool false, .int .u32 0, .int .u32 0, .int .u8 0, .bool false, .int .u32 0, .int .u32 0, .int .u8 0, .bool false], .agg #[.string ByteArray.empty, .string ByteArray.empty]]
theorem door_met (os : Os) (args : Array Value) : laidMetH Tryd.prog Rows.wtypePutsRow.laid ((World.doorLaid Tryd.prog 400 os).forCall (fun _ _ => 0) ⟨#[], args, []⟩).memory :=
  laidMetH_of_parts3 (fuel := 8) (laidMet_of_run' 8 (by kernel_rfl) (by kernel_rfl)) (by kernel_rfl) (by kernel_rfl)
set_option maxRecDepth 100000 in
theorem globN_of_laid {W : World} (h : laidMetH Tryd.prog Rows.wtypePutsRow.laid W) : GlobN W := by
  rw [MakeChecks.laidMetH_plain _ _ _ (by kernel_rfl)] at h
  obtain ⟨ps, ⟨g0, t0, cs0, f0, p0, q0, hg0, ht0, hv0, hd0, _, _⟩, _, _⟩ := h
  obtain rfl := Option.some.inj (gNum.symm.trans hg0)
  obtain rfl := Option.some.inj (tNum.symm.trans ht0)
  obtain ⟨y0, y1, n, hx, hlen, h0, h1⟩ := trod_struct2 Tryd.underlying85 hd0
  obtain ⟨a, e0, ea, _⟩ := DataW.trod_int Tryd.underlying3 h0
  obtain ⟨b, e1, eb, _⟩ := DataW.trod_int Tryd.underlying3 h1
  rw [kcS] at hlen
  rw [kc3] at e0 e1
  simp only [Rows.laid_dobby_wtype_number, Prod.mk.injEq, DataW.agg.injEq, List.cons.injEq] at hx
  obtain ⟨⟨hx0, hx1, _⟩, _⟩ := hx
  rw [ea] at hx0
  rw [eb] at hx1
  have ha : a = 1 := by simpa using hx0.symm
  have hb : b = 5 := by simpa using hx1.symm
  subst ha hb
  have v0 := World.var?_cell hg0 hv0 0
  have v1 := World.var?_cell hg0 hv0 1
  obtain ⟨l⟩ := cs0
  match l, hlen, e0, e1 with
  | [x0, x1], _, e0, e1 =>
    simp at e0 e1
    subst e0 e1
    exact ⟨by simpa using v0, by simpa using v1⟩

set_option maxRecDepth 100000 in
theorem wputs_lifted (os : Os) (started : os.Started) (H : Type) (enc : TypeId × Value → H) :
    ReturnsInHanded {} Tryd.checked os 4 .any (fun w args => (Rows.wtypePutsSpec.pre enc Tryd.prog Tryd.f4 [] false w args ∧ laidMetH Tryd.prog Rows.wtypePutsRow.laid w) ∧ sizedMet enc Tryd.prog Tryd.f4 (OpenSpec.ofChange Rows.wtypePutsSpec) false w args)
      (Rows.wtypePutsSpec.post enc Tryd.prog Tryd.f4 false true false false) := by
  refine returnsInHanded_of_change_and (C := Tryd.checked) (X := fun w _ => laidMetH Tryd.prog Rows.wtypePutsRow.laid w) (fun _ _ _ hh h => h.of_heap hh) ownKn started (by kernel_rfl) Tryd.func4
    (ChangeSpec.witness_shaped (enc := enc) (C := Tryd.checked) (os := os) (X := fun w _ => laidMetH Tryd.prog Rows.wtypePutsRow.laid w) false (World.doorLaid Tryd.prog 400 os) zeroArgs 8 rfl (World.shaped_of_RefB (by kernel_rfl) (by kernel_rfl)) (by kernel_rfl) (by kernel_rfl) (by kernel_rfl) (door_met os _)) ?_
  intro W base args ds gs before hval0 hW _ _ hL _
  have hval : ∀ (j : Nat) t v, Tryd.f4.params[j]? = some t → args[j]? = some v → Value.okWide Tryd.prog W .any base t v := hval0
  have hW' := hW
  obtain ⟨p, q, hA0, hV, rfl, hfz, hnd⟩ := hW
  have hA : DataW.TrodAll enc Tryd.prog W 0 (fun _ => true) true Tryd.f4.params.toList args.toList ds p := hA0
  rw [Tryd.params4] at hA hval
  obtain ⟨v0, v1, d0, d1, p0, p1, rfl, rfl, rfl, h0, h1⟩ := trodAll_two hA
  obtain ⟨rfl, rfl⟩ := trodVars_none hV
  obtain ⟨vv, ps, rs, lm, la, lb, tv, tm, ta, tb, gv, gm, rfl, w0, w1, w2, w3, w4, w5, w6⟩ := open_types (hval 0 53 v0 rfl rfl) h0
  obtain ⟨s, u, rfl⟩ := open_func (hval 1 44 v1 rfl rfl) h1
  have k0 := h0
  have k1 := h1
  have lt0 : ∀ z ∈ p0, z.block < W.heap.size := by obtain ⟨m, hm⟩ := k0; exact DataW.trod_lt m _ _ _ hm
  have lt1 : ∀ z ∈ p1, z.block < W.heap.size := by obtain ⟨m, hm⟩ := k1; exact DataW.trod_lt m _ _ _ hm
  have hG := globN_of_laid hL
  clear hA0 hval0
  simp only [List.append_nil, List.nil_append] at hW'
  refine (wputs_walk vv ps rs s u lm la lb tv tm ta tb gv gm W hG (bounds_u32 w1).1 (bounds_u32 w1).2 (bounds_u32 w2).1 (bounds_u32 w2).2 (bounds_u32 w4).1 (bounds_u32 w4).2 (bounds_u32 w5).1 (bounds_u32 w5).2).mono fun r W' ⟨he, bel⟩ => ?_
  subst he
  exact ⟨_, rfl, _, _, _, [], _, [], hW', trodAll_mk1 (shut_bool Tryd.underlying4 true), trodAll_mk2 (Below.trod laidOutP (by kernel_rfl) (of_decide_eq_true (by kernel_rfl)) k0 bel lt0) (Below.trod laidOutP (by kernel_rfl) (of_decide_eq_true (by kernel_rfl)) k1 bel lt1), rfl, bel.frame _, fun h => by cases h⟩

theorem wputs_row : Rows.WtypePutsSaid :=
  OpenClaim.holds_of_wide 4 Tryd.f4 rfl rfl rfl rfl rfl rfl rfl ⟨rfl, rfl, rfl, rfl, rfl⟩ rfl rfl rfl rfl rfl (by kernel_rfl) Tryd.func4 (by kernel_rfl)
    (of_decide_eq_true (by kernel_rfl)) (by unfold Func.isWrapper; rw [if_neg (of_decide_eq_false (by kernel_rfl))]; exact ⟨rfl, rfl⟩)
    (fun os started H enc _ => wputs_lifted os started H enc)

theorem wtypePuts_card : Rows.WtypePutsCardSaid :=
  Claim7.holds_tied_plain_at .later [] [.wider] true (true, "fcf1235884862032841f8b0b17408dd3da3984c4711139cd5fd47707b07d6eaf") true
    wputs_row (fun _ h => by cases h) (by kernel_rfl) (fun _ h => by cases h) wtypePuts_row_tie rfl ⟨rfl, rfl⟩ (by kernel_rfl) rfl
    (fun f fn hf hfn => by
      obtain rfl : f = 4 := Option.some.inj ((show Tryd.prog.funcNamed "dobby/dobbylaw05.WtypePuts" = some 4 by kernel_rfl).symm.trans hf) |>.symm
      obtain rfl : fn = Tryd.f4 := (Option.some.inj (Tryd.func4.symm.trans hfn)).symm
      exact ⟨by kernel_rfl, fun j t ht => by
        rw [Tryd.params4] at ht
        have hm : t ∈ [53, 44] := by simpa using Array.mem_of_getElem? ht
        have hall : ([53, 44].all fun u => !Tryd.prog.wantsStandIn u) = true := by kernel_rfl
        exact (show Tryd.prog.wantsStandIn t = false by simpa using List.all_eq_true.1 hall t hm)⟩)
    (by kernel_rfl)
#print axioms wtypePuts_card
end Go.Proofs.YtiohiiekaofkbaaDoor
