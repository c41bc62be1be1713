/-
  Where a cursor gives up does not hang on what stands behind: cut behind that byte, or with others behind it, it is told at the same place; cut ahead of it bytes lack (of 600 bytes, 30 asks, 60 bytes more; greater ones are let go); the chapter's example holds. No condition beyond the row's own.
-/
import Derived.Test.YtiohiiekaofkbaaDoorRows
import Derived.Test.YtiohiiekaofkbaaDoorCards
import Derived.Test.YtiohiiekaofkbaaDoorTie
import Derived.Test.YtiohiiekaofkbaaDoorF5
import Derived.Test.YtiohiiekaofkbaaDoorO6
import Derived.LaidMore
import Derived.Stop.Joined
import Derived.ChangeMaps5
namespace Go.Proofs.YtiohiiekaofkbaaDoor
set_option linter.unusedVariables false
set_option linter.unusedSimpArgs false
open Go.ChangeShapes Go.WideShapes Go.ChangeAt Go.RowKit Go.Joins Go.ChangeMaps Go.Proofs.YtiohiiekaofkbaaDoor.PCursorPlaces Go.Proofs.YtiohiiekaofkbaaDoorW.PrintWords

theorem ownKn : ownKnob Tryd.prog.godebug = none := by kernel_rfl
theorem laidOutP : laidOutB Tryd.prog = true := by kernel_rfl
theorem gNone : Tryd.prog.globalNamed "dobby/span.none" = some 5 := by kernel_rfl
theorem tNone : (Tryd.prog.globals[5]?).map (·.type) = some 174 := by kernel_rfl
theorem kcR : Tryd.prog.cellsOf 174 = 2 := by kernel_rfl
def zeroArgs : Array Value := #[.slice none 0 0, .slice none 0 0, .slice none 0 0]
theorem door_met (os : Os) (args : Array Value) : laidMetH Tryd.prog Rows.cursorPlacesRow.laid ((World.doorLaid Tryd.prog 400 os).forCall (fun _ _ => 0) ⟨#[], args, []⟩).memory :=
  laidMetH_of_parts3 (fuel := 8) (laidMet_of_run' 8 (by kernel_rfl) (by kernel_rfl)) (by kernel_rfl) (by kernel_rfl)
set_option maxRecDepth 100000 in
theorem laid_range {W : World} {n : String} {a b : Int} {rest : List (String × DataW Unit)} {ps : List MemPlace} {g : Nat} (h : DataW.LaidVars Tryd.prog W ((n, .agg [.lit (.int .u64 a), .lit (.int .u64 b)]) :: rest) ps) (hn : Tryd.prog.globalNamed n = some g) (ht : (Tryd.prog.globals[g]?).map (·.type) = some 174) :
    W.cell? ⟨g, 0, none⟩ = some (.int .u64 a) ∧ W.cell? ⟨g, 1, none⟩ = some (.int .u64 b) ∧ ∃ qs, DataW.LaidVars Tryd.prog W rest qs := by
  obtain ⟨g0, t0, cs0, f0, p0, q0, hg0, ht0, hv0, hd0, hrest, _⟩ := h
  obtain rfl := Option.some.inj (hn.symm.trans hg0)
  obtain rfl := Option.some.inj (ht.symm.trans ht0)
  obtain ⟨y0, y1, n, hx, hlen, h0, h1⟩ := trod_struct2 Tryd.underlying174 hd0
  obtain ⟨c, e0, ea, _⟩ := DataW.trod_int Tryd.underlying111 h0
  obtain ⟨d, e1, eb, _⟩ := DataW.trod_int Tryd.underlying111 h1
  rw [kcR] at hlen
  rw [kcu64] at e0 e1
  simp only [Prod.mk.injEq, DataW.agg.injEq, List.cons.injEq] at hx
  obtain ⟨⟨hx0, hx1, _⟩, _⟩ := hx
  rw [ea] at hx0
  rw [eb] at hx1
  have ha : c = a := by simpa using hx0.symm
  have hb : d = b := by simpa using hx1.symm
  subst ha hb
  have v0 := World.var?_cell hg0 hv0 0
  have v1 := World.var?_cell hg0 hv0 1
  obtain ⟨l⟩ := cs0
  match l, hlen, e0, e1 with
  | [x0, x1], _, e0, e1 =>
    simp at e0 e1
    subst e0 e1
    exact ⟨by simpa using v0, by simpa using v1, _, hrest⟩
theorem globs_of_laid {W : World} (h : laidMetH Tryd.prog Rows.cursorPlacesRow.laid W) : Glob W := by
  rw [MakeChecks.laidMetH_plain _ _ _ (by kernel_rfl)] at h
  obtain ⟨ps, h1, _⟩ := h
  obtain ⟨a0, a1, q1, h2⟩ := laid_range h1 gNone tNone
  exact ⟨cell_lt a0, a0, a1⟩
set_option maxRecDepth 100000 in
theorem bts_of {H : Type} {enc : TypeId × Value → H} {W : World} {base : Nat} {v : Value} {d : DataW H} {p : List MemPlace} (hval : Value.okWide Tryd.prog W .any base 70 v)
    (h : DataW.Trod enc Tryd.prog W 0 (fun _ => true) true 70 v d p) (hw : ∀ m ∈ d.weights Tryd.prog 70, m ≤ 140737488351232) : ∃ A c l, v = .slice A l.length c ∧ Bts W A c l ∧ l.length ≤ 1000000000000000 := by
  have hval' := hval
  obtain ⟨a1, len, cap, rfl⟩ := okWide_slice Tryd.underlying70 hval
  obtain ⟨fuel, hf⟩ := h
  obtain ⟨l', ⟨A', c', e', _, _⟩, f', _⟩ := opn_slice (k := Kd.int .u8) Tryd.underlying70 kc5 (B := 1) (by kernel_rfl) (opn_int Tryd.underlying5) _ _ _ hf hw
  have hlen' : len = l'.length := by
    simp [Value.cells] at e'
    exact e'.2.1
  rcases open_ints Tryd.underlying70 Tryd.underlying5 kc5 hf with ⟨hcs, hx⟩ | ⟨a, len', cap', zs, hcs, _, hl, hm, hz, hx, hcell, hwz⟩
  · simp [Value.cells] at hcs
    obtain ⟨rfl, rfl, rfl⟩ := hcs
    exact ⟨none, 0, [], rfl, ⟨.inl rfl, fun ad e => (by cases e), by simp, fun _ => rfl, by simp⟩, by simp⟩
  · simp [Value.cells] at hcs
    obtain ⟨rfl, rfl, rfl⟩ := hcs
    simp only [if_true] at hz
    have hlen : (zs.take len).length = len := by simp; omega
    refine ⟨some a, cap, zs.take len, by rw [hlen], ⟨.inr ⟨a, rfl, fun j y hj => ?_⟩, fun ad e => ?_, by rw [hlen]; exact hl, fun e => (by cases e), fun x hx => ?_⟩, by rw [hlen]; omega⟩
    · obtain ⟨hjl, hjy⟩ := List.getElem?_eq_some_iff.1 hj
      rw [hlen] at hjl
      rw [hcell j (by omega)]
      congr 2
      rw [← hjy]
      simp [List.getD, List.getElem?_eq_getElem (show j < zs.length by omega)]
    · cases e
      exact block_of Tryd.underlying70 hval'
    · have hx' := List.mem_of_mem_take hx
      obtain ⟨i, hi, rfl⟩ := List.mem_iff_getElem.1 hx'
      have := range_u8 hwz i
      rw [show zs[i]?.getD 0 = zs[i] by simp [List.getElem?_eq_getElem hi]] at this
      omega
theorem typ_of {x : S154} (h : fineAk x) : TypA x :=
  ⟨by have := bounds_u8 h.1; omega, by have := bounds_i64 h.2.1; omega, by have := bounds_u64 h.2.2.2.2.2.1; omega, by have := bounds_u64 h.2.2.2.2.2.2.1; omega, (bounds_i64 h.2.2.2.2.2.2.2.1.2).2, (bounds_i64 h.2.2.2.2.2.2.2.2.1.2).2, (bounds_i64 h.2.2.2.2.2.2.2.2.2.1.2).2,
   by have := h.2.2.2.2.2.2.2.2.2.2.1; omega, fun y hy => by have := bounds_u64 (h.2.2.2.2.2.2.2.2.2.2.2 y hy).1; omega⟩
theorem asks_at {w : World} {A : Option Addr} {xs : List S154} (h : Kd.C k154 w A xs.length xs) : AsksAt w A xs := fun i hi => by
  obtain ⟨ad, A13, c13, e, h0, h1, h2, h3, h4, h5, h6, h7, h8, h9, h10, h11, h12, h13, _, hp⟩ := at_T154 h (i : Int) (by omega) (by omega)
  have er : rd_T154 xs (i : Int) = xs[i] := by simp [rd_T154, List.getD_eq_getElem?_getD, List.getElem?_eq_getElem hi]
  rw [Int.toNat_natCast] at h0 h1 h2 h3 h4 h5 h6 h7 h8 h9 h10 h11 h12 h13
  rw [er] at h0 h1 h2 h3 h4 h5 h6 h7 h8 h9 h10 h11 h12 h13 hp
  exact ⟨ad, e, A13, c13, h0, h1, h2, h3, h4, h5, h6, h7, h8, h9, h10, h11, h12, h13, hp⟩
set_option maxRecDepth 100000 in
theorem places_lifted (os : Os) (started : os.Started) (H : Type) (enc : TypeId × Value → H) :
    ReturnsInHanded {} Tryd.checked os 6 .any (fun w args => (Rows.cursorPlacesSpec.pre enc Tryd.prog Tryd.f6 [] false w args ∧ laidMetH Tryd.prog Rows.cursorPlacesRow.laid w) ∧ sizedMet enc Tryd.prog Tryd.f6 (OpenSpec.ofChange Rows.cursorPlacesSpec) false w args)
      (Rows.cursorPlacesSpec.post enc Tryd.prog Tryd.f6 false true false false) := by
  refine returnsInHanded_of_change_and (C := Tryd.checked) (X := fun w _ => laidMetH Tryd.prog Rows.cursorPlacesRow.laid w) (fun _ _ _ hh h => h.of_heap hh) ownKn started (by kernel_rfl) Tryd.func6
    (ChangeSpec.witness_shaped (enc := enc) (C := Tryd.checked) (os := os) (X := fun w _ => laidMetH Tryd.prog Rows.cursorPlacesRow.laid w) false (World.doorLaid Tryd.prog 400 os) zeroArgs 8 rfl (World.shaped_of_RefB (by kernel_rfl) (by kernel_rfl)) (by kernel_rfl) (by kernel_rfl) (by kernel_rfl) (door_met os _)) ?_
  intro W base args ds gs before hval0 hW _ hsz0 hL _
  have hsz : (DataW.weightsEach Tryd.prog (Tryd.f6.params.toList ++ Rows.cursorPlacesSpec.plain.varTypes Tryd.prog) (ds ++ gs)).all (· ≤ reachBytes) = true := hsz0
  have hval : ∀ (j : Nat) t v, Tryd.f6.params[j]? = some t → args[j]? = some v → Value.okWide Tryd.prog W .any base t v := hval0
  have hW' := hW
  obtain ⟨p, q, hA0, hV, rfl, hfz, hnd⟩ := hW
  have hA : DataW.TrodAll enc Tryd.prog W 0 (fun _ => true) true Tryd.f6.params.toList args.toList ds p := hA0
  rw [Tryd.params6] at hA hval
  obtain ⟨v0, v1, v2, d0, d1, d2, p0, p1, p2, rfl, rfl, rfl, h0, h1, h2⟩ := trodAll_three hA
  obtain ⟨rfl, rfl⟩ := trodVars_none hV
  have hwt : ∀ (j : Nat) (t : TypeId) (d : DataW H), [70, 93, 70][j]? = some t → [d0, d1, d2][j]? = some d → ∀ m ∈ d.weights Tryd.prog t, m ≤ 140737488351232 := by
    intro j t d ht hd m hm
    have hin := DataW.weights_mem_each ht hd m hm
    have hsz2 : (DataW.weightsEach Tryd.prog [70, 93, 70] [d0, d1, d2]).all (· ≤ reachBytes) = true := by
      have e : Tryd.f6.params.toList ++ Rows.cursorPlacesSpec.plain.varTypes Tryd.prog = [70, 93, 70] := by rw [Tryd.params6]; rfl
      rw [e] at hsz
      simpa using hsz
    have := List.all_eq_true.1 hsz2 m hin
    exact of_decide_eq_true this
  obtain ⟨A, c, l, rfl, hB, hl⟩ := bts_of (hval 0 70 v0 rfl rfl) h0 (hwt 0 _ _ rfl rfl)
  obtain ⟨A2, c2, ml, rfl, hM, hml⟩ := bts_of (hval 2 70 v2 rfl rfl) h2 (hwt 2 _ _ rfl rfl)
  obtain ⟨a1, len1, c1, rfl⟩ := okWide_slice Tryd.underlying93 (hval 1 93 v1 rfl rfl)
  have k1 := h1
  obtain ⟨fuel, hf⟩ := h1
  obtain ⟨xs, ⟨A1, c1', e1, hc1, hC⟩, hfn, hfa⟩ := opn_asks _ _ _ hf (hwt 1 _ _ rfl rfl)
  simp [Value.cells] at e1
  obtain ⟨rfl, rfl, rfl⟩ := e1
  have k0 := h0
  have k2 := h2
  have lt0 : ∀ z ∈ p0, z.block < W.heap.size := by obtain ⟨m, hm⟩ := k0; exact DataW.trod_lt m _ _ _ hm
  have lt1 : ∀ z ∈ p1, z.block < W.heap.size := by obtain ⟨m, hm⟩ := k1; exact DataW.trod_lt m _ _ _ hm
  have lt2 : ∀ z ∈ p2, z.block < W.heap.size := by obtain ⟨m, hm⟩ := k2; exact DataW.trod_lt m _ _ _ hm
  have hG := globs_of_laid hL
  clear hA0 hval0 hsz0 hsz hwt
  simp only [List.append_nil, List.nil_append] at hW'
  refine (places_walk A c l a1 c1 xs A2 c2 ml W hB hM (asks_at hC) hc1 (fun x hx => typ_of (hfa x hx)) (by omega) hl hml hG).mono fun r W' ⟨he, bel⟩ => ?_
  subst he
  exact ⟨_, rfl, _, _, _, [], _, [], hW', trodAll_mk1 (shut_bool Tryd.underlying4 true), trodAll_mk3 (Below.trod laidOutP (by kernel_rfl) (of_decide_eq_true (by kernel_rfl)) k0 bel lt0) (Below.trod laidOutP (by kernel_rfl) (of_decide_eq_true (by kernel_rfl)) k1 bel lt1) (Below.trod laidOutP (by kernel_rfl) (of_decide_eq_true (by kernel_rfl)) k2 bel lt2), rfl, bel.frame _, fun h => by cases h⟩

theorem places_row : Rows.CursorPlacesSaid :=
  OpenClaim.holds_of_wide 6 Tryd.f6 rfl rfl rfl rfl rfl rfl rfl ⟨rfl, rfl, rfl, rfl, rfl⟩ rfl rfl rfl rfl rfl (by kernel_rfl) Tryd.func6 (by kernel_rfl)
    (of_decide_eq_true (by kernel_rfl)) (by unfold Func.isWrapper; rw [if_neg (of_decide_eq_false (by kernel_rfl))]; exact ⟨rfl, rfl⟩)
    (fun os started H enc _ => places_lifted os started H enc)

theorem cursorPlaces_card : Rows.CursorPlacesCardSaid :=
  Claim7.holds_tied_plain_at .later [] [.data] true (true, "fcf1235884862032841f8b0b17408dd3da3984c4711139cd5fd47707b07d6eaf") true
    places_row (fun _ h => by cases h) (by kernel_rfl) (fun _ h => by cases h) cursorPlaces_row_tie rfl ⟨rfl, rfl⟩ (by kernel_rfl) rfl
    (fun f fn hf hfn => by
      obtain rfl : f = 6 := Option.some.inj ((show Tryd.prog.funcNamed "dobby/dobbylaw04.CursorPlaces" = some 6 by kernel_rfl).symm.trans hf) |>.symm
      obtain rfl : fn = Tryd.f6 := (Option.some.inj (Tryd.func6.symm.trans hfn)).symm
      exact ⟨by kernel_rfl, fun j t ht => by
        rw [Tryd.params6] at ht
        have hm : t ∈ [70, 93, 70] := by simpa using Array.mem_of_getElem? ht
        have hall : ([70, 93, 70].all fun u => !Tryd.prog.wantsStandIn u) = true := by kernel_rfl
        exact (show Tryd.prog.wantsStandIn t = false by simpa using List.all_eq_true.1 hall t hm)⟩)
    (by kernel_rfl)
#print axioms cursorPlaces_card
end Go.Proofs.YtiohiiekaofkbaaDoor
