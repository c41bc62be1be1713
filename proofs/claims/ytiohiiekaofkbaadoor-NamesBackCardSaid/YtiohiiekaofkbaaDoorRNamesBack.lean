/-
  For any names that are right, what the document puts of them, also with numbers in more bytes, and what the program puts is read as it was, and the program's bytes are no more; for any bytes, names that are read are right, put and read again they are the same, in no more bytes; what is not read is nothing (of lists of 30 at most, 3000 bytes in all, 2000 bytes to be read; greater ones are let go); the chapter's example holds. No condition beyond the row's own.
-/
import Derived.Test.YtiohiiekaofkbaaDoorRows
import Derived.Test.YtiohiiekaofkbaaDoorCards
import Derived.Test.YtiohiiekaofkbaaDoorTie
import Derived.Test.YtiohiiekaofkbaaDoorZ16
import Derived.LaidMore
import Derived.Stop.Joined
import Derived.ProofKit
import Derived.ChangeOld
import Derived.SizedLaws
import Derived.ShutString
import Derived.ChangeMaps5
import Derived.OpenShut
namespace Go.Proofs.YtiohiiekaofkbaaDoor
set_option linter.unusedVariables false
set_option linter.unusedSimpArgs false
open Go.ChangeShapes Go.WideShapes Go.ChangeAt Go.RowKit Go.Joins Go.ChangeMaps

theorem ownKn : ownKnob Tryd.prog.godebug = none := by kernel_rfl
theorem laidOutP : laidOutB Tryd.prog = true := by kernel_rfl
theorem kcS : Tryd.prog.cellsOf 85 = 2 := by kernel_rfl
theorem kc3 : Tryd.prog.cellsOf 3 = 1 := by kernel_rfl
theorem gNone : Tryd.prog.globalNamed "dobby/span.none" = some 5 := by kernel_rfl
theorem gNo : Tryd.prog.globalNamed "dobby/names.none" = some 2 := by kernel_rfl
theorem gAny : Tryd.prog.globalNamed "dobby/names.any2" = some 6 := by kernel_rfl
theorem gSome : Tryd.prog.globalNamed "dobby/names.some" = some 1 := by kernel_rfl
theorem tNone : (Tryd.prog.globals[5]?).map (·.type) = some 174 := by kernel_rfl
theorem tNo : (Tryd.prog.globals[2]?).map (·.type) = some 85 := by kernel_rfl
theorem tAny : (Tryd.prog.globals[6]?).map (·.type) = some 85 := by kernel_rfl
theorem tSome : (Tryd.prog.globals[1]?).map (·.type) = some 85 := by kernel_rfl
theorem kcR : Tryd.prog.cellsOf 174 = 2 := by kernel_rfl
theorem kcu64 : Tryd.prog.cellsOf 111 = 1 := by kernel_rfl
def zeroArgs : Array Value := #[.agg #[.bool false, .bool false, .bool false, .string ByteArray.empty, .slice none 0 0, .slice none 0 0], .int .u8 0, .string ByteArray.empty]
theorem door_met (os : Os) (args : Array Value) : laidMetH Tryd.prog Rows.namesBackRow.laid ((World.doorLaid Tryd.prog 400 os).forCall (fun _ _ => 0) ⟨#[], args, []⟩).memory :=
  laidMetH_of_parts3 (fuel := 8) (laidMet_of_run' 8 (by kernel_rfl) (by kernel_rfl)) (by kernel_rfl) (by kernel_rfl)
set_option maxRecDepth 100000 in
theorem laid_span {W : World} {n : String} {a b : Int} {rest : List (String × DataW Unit)} {ps : List MemPlace} {g : Nat} (h : DataW.LaidVars Tryd.prog W ((n, .agg [.lit (.int .i64 a), .lit (.int .i64 b)]) :: rest) ps) (hn : Tryd.prog.globalNamed n = some g) (ht : (Tryd.prog.globals[g]?).map (·.type) = some 85) :
    W.cell? ⟨g, 0, none⟩ = some (.int .i64 a) ∧ W.cell? ⟨g, 1, none⟩ = some (.int .i64 b) ∧ ∃ qs, DataW.LaidVars Tryd.prog W rest qs := by
  obtain ⟨g0, t0, cs0, f0, p0, q0, hg0, ht0, hv0, hd0, hrest, _⟩ := h
  obtain rfl := Option.some.inj (hn.symm.trans hg0)
  obtain rfl := Option.some.inj (ht.symm.trans ht0)
  obtain ⟨y0, y1, n, hx, hlen, h0, h1⟩ := trod_struct2 Tryd.underlying85 hd0
  obtain ⟨c, e0, ea, _⟩ := DataW.trod_int Tryd.underlying3 h0
  obtain ⟨d, e1, eb, _⟩ := DataW.trod_int Tryd.underlying3 h1
  rw [kcS] at hlen
  rw [kc3] at e0 e1
  simp only [Prod.mk.injEq, DataW.agg.injEq, List.cons.injEq] at hx
  obtain ⟨⟨hx0, hx1, _⟩, _⟩ := hx
  rw [ea] at hx0
  rw [eb] at hx1
  have ha : c = a := by simpa using hx0.symm
  have hb : d = b := by simpa using hx1.symm
  subst ha hb
  have v0 := World.var?_cell hg0 hv0 0
  have v1 := World.var?_cell hg0 hv0 1
  obtain ⟨l⟩ := cs0
  match l, hlen, e0, e1 with
  | [x0, x1], _, e0, e1 =>
    simp at e0 e1
    subst e0 e1
    exact ⟨by simpa using v0, by simpa using v1, _, hrest⟩
set_option maxRecDepth 100000 in
theorem laid_range {W : World} {n : String} {a b : Int} {rest : List (String × DataW Unit)} {ps : List MemPlace} {g : Nat} (h : DataW.LaidVars Tryd.prog W ((n, .agg [.lit (.int .u64 a), .lit (.int .u64 b)]) :: rest) ps) (hn : Tryd.prog.globalNamed n = some g) (ht : (Tryd.prog.globals[g]?).map (·.type) = some 174) :
    W.cell? ⟨g, 0, none⟩ = some (.int .u64 a) ∧ W.cell? ⟨g, 1, none⟩ = some (.int .u64 b) ∧ ∃ qs, DataW.LaidVars Tryd.prog W rest qs := by
  obtain ⟨g0, t0, cs0, f0, p0, q0, hg0, ht0, hv0, hd0, hrest, _⟩ := h
  obtain rfl := Option.some.inj (hn.symm.trans hg0)
  obtain rfl := Option.some.inj (ht.symm.trans ht0)
  obtain ⟨y0, y1, n, hx, hlen, h0, h1⟩ := trod_struct2 Tryd.underlying174 hd0
  obtain ⟨c, e0, ea, _⟩ := DataW.trod_int Tryd.underlying111 h0
  obtain ⟨d, e1, eb, _⟩ := DataW.trod_int Tryd.underlying111 h1
  rw [kcR] at hlen
  rw [kcu64] at e0 e1
  simp only [Prod.mk.injEq, DataW.agg.injEq, List.cons.injEq] at hx
  obtain ⟨⟨hx0, hx1, _⟩, _⟩ := hx
  rw [ea] at hx0
  rw [eb] at hx1
  have ha : c = a := by simpa using hx0.symm
  have hb : d = b := by simpa using hx1.symm
  subst ha hb
  have v0 := World.var?_cell hg0 hv0 0
  have v1 := World.var?_cell hg0 hv0 1
  obtain ⟨l⟩ := cs0
  match l, hlen, e0, e1 with
  | [x0, x1], _, e0, e1 =>
    simp at e0 e1
    subst e0 e1
    exact ⟨by simpa using v0, by simpa using v1, _, hrest⟩
theorem globs_of_laid {W : World} (h : laidMetH Tryd.prog Rows.namesBackRow.laid W) : Glob W ∧ GlobM W := by
  rw [MakeChecks.laidMetH_plain _ _ _ (by kernel_rfl)] at h
  obtain ⟨ps, h1, _⟩ := h
  obtain ⟨a0, a1, q1, h2⟩ := laid_range h1 gNone tNone
  obtain ⟨n0, n1, q2, h3⟩ := laid_span h2 gNo tNo
  obtain ⟨y0, y1, q3, h4⟩ := laid_span h3 gAny tAny
  obtain ⟨s0, s1, q4, h5⟩ := laid_span h4 gSome tSome
  exact ⟨⟨cell_lt a0, a0, a1⟩, ⟨y0, y1, s0, s1, n0, n1⟩⟩
set_option maxRecDepth 100000 in
theorem nback_lifted (os : Os) (started : os.Started) (H : Type) (enc : TypeId × Value → H) :
    ReturnsInHanded {} Tryd.checked os 3 .any (fun w args => (Rows.namesBackSpec.pre enc Tryd.prog Tryd.f3 [] false w args ∧ laidMetH Tryd.prog Rows.namesBackRow.laid w) ∧ sizedMet enc Tryd.prog Tryd.f3 (OpenSpec.ofChange Rows.namesBackSpec) false w args)
      (Rows.namesBackSpec.post enc Tryd.prog Tryd.f3 false true false false) := by
  refine returnsInHanded_of_change_and (C := Tryd.checked) (X := fun w _ => laidMetH Tryd.prog Rows.namesBackRow.laid w) (fun _ _ _ hh h => h.of_heap hh) ownKn started (by kernel_rfl) Tryd.func3
    (ChangeSpec.witness_shaped (enc := enc) (C := Tryd.checked) (os := os) (X := fun w _ => laidMetH Tryd.prog Rows.namesBackRow.laid w) false (World.doorLaid Tryd.prog 400 os) zeroArgs 8 rfl (World.shaped_of_RefB (by kernel_rfl) (by kernel_rfl)) (by kernel_rfl) (by kernel_rfl) (by kernel_rfl) (door_met os _)) ?_
  intro W base args ds gs before hval0 hW _ hsz0 hL _
  have hsz : (DataW.weightsEach Tryd.prog (Tryd.f3.params.toList ++ Rows.namesBackSpec.plain.varTypes Tryd.prog) (ds ++ gs)).all (· ≤ reachBytes) = true := hsz0
  have hval : ∀ (j : Nat) t v, Tryd.f3.params[j]? = some t → args[j]? = some v → Value.okWide Tryd.prog W .any base t v := hval0
  have hW' := hW
  obtain ⟨p, q, hA0, hV, rfl, hfz, hnd⟩ := hW
  have hA : DataW.TrodAll enc Tryd.prog W 0 (fun _ => true) true Tryd.f3.params.toList args.toList ds p := hA0
  rw [Tryd.params3] at hA hval
  obtain ⟨v0, v1, v2, d0, d1, d2, p0, p1, p2, rfl, rfl, rfl, h0, h1, h2⟩ := trodAll_three hA
  obtain ⟨rfl, rfl⟩ := trodVars_none hV
  have hwt : ∀ (j : Nat) (t : TypeId) (d : DataW H), [25, 5, 9][j]? = some t → [d0, d1, d2][j]? = some d → ∀ m ∈ d.weights Tryd.prog t, m ≤ 140737488351232 := by
    intro j t d ht hd m hm
    have hin := DataW.weights_mem_each ht hd m hm
    have hsz2 : (DataW.weightsEach Tryd.prog [25, 5, 9] [d0, d1, d2]).all (· ≤ reachBytes) = true := by
      have e : Tryd.f3.params.toList ++ Rows.namesBackSpec.plain.varTypes Tryd.prog = [25, 5, 9] := by rw [Tryd.params3]; rfl
      rw [e] at hsz
      simpa using hsz
    have := List.all_eq_true.1 hsz2 m hin
    exact of_decide_eq_true this
  obtain ⟨x, A, c, B, e, rfl, hx, hxf⟩ := open_rNames (hval 0 25 v0 rfl rfl) h0 (hwt 0 _ _ rfl rfl)
  obtain ⟨m, rfl, rfl, rfl, wm⟩ := open_int Tryd.underlying5 (hval 1 5 v1 rfl rfl) h1
  obtain ⟨s, rfl, rfl, rfl, ws⟩ := open_string Tryd.underlying9 (hval 2 9 v2 rfl rfl) h2
  have k0 := h0
  have lt0 : ∀ z ∈ p0, z.block < W.heap.size := by obtain ⟨m, hm⟩ := k0; exact DataW.trod_lt m _ _ _ hm
  have hG := globs_of_laid hL
  clear hA0 hval0 hsz0 hsz hwt
  simp only [List.append_nil, List.nil_append] at hW'
  refine (back_law x A c B e m s W hx hxf hG.1 hG.2 (bounds_u8 wm).1 (by have := (bounds_u8 wm).2; omega)).mono fun r W' ⟨he, bel⟩ => ?_
  subst he
  exact ⟨_, rfl, _, _, _, [], _, [], hW', trodAll_mk1 (shut_bool Tryd.underlying4 true), trodAll_mk3 (Below.trod laidOutP (by kernel_rfl) (of_decide_eq_true (by kernel_rfl)) k0 bel lt0) (shut_int Tryd.underlying5 wm) (shut_string Tryd.underlying9 ws), rfl, bel.frame _, fun h => by cases h⟩

theorem nback_row : Rows.NamesBackSaid :=
  OpenClaim.holds_of_wide 3 Tryd.f3 rfl rfl rfl rfl rfl rfl rfl ⟨rfl, rfl, rfl, rfl, rfl⟩ rfl rfl rfl rfl rfl (by kernel_rfl) Tryd.func3 (by kernel_rfl)
    (of_decide_eq_true (by kernel_rfl)) (by unfold Func.isWrapper; rw [if_neg (of_decide_eq_false (by kernel_rfl))]; exact ⟨rfl, rfl⟩)
    (fun os started H enc _ => nback_lifted os started H enc)

theorem namesBack_card : Rows.NamesBackCardSaid :=
  Claim7.holds_tied_plain_at .later [] [.data, .data, .wider, .wider] true (true, "fcf1235884862032841f8b0b17408dd3da3984c4711139cd5fd47707b07d6eaf") true
    nback_row (fun _ h => by cases h) (by kernel_rfl) (fun _ h => by cases h) namesBack_row_tie rfl ⟨rfl, rfl⟩ (by kernel_rfl) rfl
    (fun f fn hf hfn => by
      obtain rfl : f = 3 := Option.some.inj ((show Tryd.prog.funcNamed "dobby/dobbylaw14.NamesBack" = some 3 by kernel_rfl).symm.trans hf) |>.symm
      obtain rfl : fn = Tryd.f3 := (Option.some.inj (Tryd.func3.symm.trans hfn)).symm
      exact ⟨by kernel_rfl, fun j t ht => by
        rw [Tryd.params3] at ht
        have hm : t ∈ [25, 5, 9] := by simpa using Array.mem_of_getElem? ht
        have hall : ([25, 5, 9].all fun u => !Tryd.prog.wantsStandIn u) = true := by kernel_rfl
        exact (show Tryd.prog.wantsStandIn t = false by simpa using List.all_eq_true.1 hall t hm)⟩)
    (by kernel_rfl)
#print axioms namesBack_card
end Go.Proofs.YtiohiiekaofkbaaDoor
