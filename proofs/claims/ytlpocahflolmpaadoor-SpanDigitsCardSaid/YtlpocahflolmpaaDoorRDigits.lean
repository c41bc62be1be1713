/-
  For any number, any range and any padding: the digits that are put, taken one by one, let in just the numbers that the document lets in. No condition beyond the row's own.
-/
import Derived.Test.YtlpocahflolmpaaDoorG2
namespace Go.Proofs.YtlpocahflolmpaaDoor
set_option linter.unusedVariables false
set_option linter.unusedSimpArgs false
open Go.ChangeShapes Go.WideShapes Go.ChangeAt Go.RowKit Go.Joins Go.Deep

theorem c44 : Tryd.prog.cellsOf 44 = 3 := by kernel_rfl
theorem c43 : Tryd.prog.cellsOf 43 = 1 := by kernel_rfl

theorem open_three_u32 {H : Type} {enc : TypeId × Value → H} {W : World} {base : Nat} {v : Value} {d : DataW H} {p : List MemPlace} (hval : Value.okWide Tryd.prog W .any base 44 v)
    (h : DataW.Trod enc Tryd.prog W 0 (fun _ => true) true 44 v d p) : ∃ d0 d1 d2 : Int, v = .agg #[.int .u32 d0, .int .u32 d1, .int .u32 d2] ∧ 0 ≤ d0 ∧ d0 ≤ 4294967295 ∧ 0 ≤ d1 ∧ d1 ≤ 4294967295 ∧ 0 ≤ d2 ∧ d2 ≤ 4294967295 := by
  have hv : ∃ cs, v = .agg cs ∧ cs.size = 3 := by
    simp only [Value.okWide, Tryd.underlying44] at hval
    obtain ⟨cs, e, hs, _⟩ := hval
    exact ⟨cs, e, by rw [hs]; exact c44⟩
  obtain ⟨⟨cs⟩, rfl, hsz⟩ := hv
  match cs, hsz with
  | [x0, x1, x2], _ =>
    obtain ⟨fuel, hf⟩ := h
    obtain ⟨y0, y1, y2, n, _, h0, h1, h2⟩ := trod_array3 Tryd.underlying44 c43 (by simpa [Value.cells] using hf)
    obtain ⟨n0, e0, _, w0⟩ := DataW.trod_int Tryd.underlying43 h0
    obtain ⟨n1, e1, _, w1⟩ := DataW.trod_int Tryd.underlying43 h1
    obtain ⟨n2, e2, _, w2⟩ := DataW.trod_int Tryd.underlying43 h2
    simp at e0 e1 e2
    subst e0 e1 e2
    have r0 := bounds_u32 w0
    have r1 := bounds_u32 w1
    have r2 := bounds_u32 w2
    exact ⟨n0, n1, n2, rfl, r0.1, r0.2, r1.1, r1.2, r2.1, r2.2⟩

set_option maxRecDepth 100000 in
theorem digits_r_lifted (os : Os) (started : os.Started) (H : Type) (enc : TypeId × Value → H) :
    ReturnsInHanded {} Tryd.checked os 5 .any (fun w args => (Rows.spanDigitsSpec.pre enc Tryd.prog Tryd.f5 [] false w args ∧ laidMetH Tryd.prog Rows.spanDigitsRow.laid w) ∧ sizedMet enc Tryd.prog Tryd.f5 (OpenSpec.ofChange Rows.spanDigitsSpec) false w args)
      (Rows.spanDigitsSpec.post enc Tryd.prog Tryd.f5 false true false false) := by
  refine returnsInHanded_of_change_and (C := Tryd.checked) (X := fun w _ => laidMetH Tryd.prog Rows.spanDigitsRow.laid w) (fun _ _ _ hh h => h.of_heap hh) own started (by kernel_rfl) Tryd.func5
    (ChangeSpec.witness_shaped (enc := enc) (C := Tryd.checked) (os := os) (X := fun w _ => laidMetH Tryd.prog Rows.spanDigitsRow.laid w) false (World.doorLaid Tryd.prog 400 os) #[.agg #[.int .u32 0, .int .u32 0, .int .u32 0], .int .u8 0] 8 rfl (World.shaped_of_RefB (by kernel_rfl) (by kernel_rfl)) (by kernel_rfl) (by kernel_rfl) (by kernel_rfl) (door_met os _)) ?_
  intro W base args ds gs before hval0 hW _ _ hL _
  have hval : ∀ (j : Nat) t v, Tryd.f5.params[j]? = some t → args[j]? = some v → Value.okWide Tryd.prog W .any base t v := hval0
  have hW' := hW
  obtain ⟨p, q, hA0, hV, rfl, hfz, hnd⟩ := hW
  have hA : DataW.TrodAll enc Tryd.prog W 0 (fun _ => true) true Tryd.f5.params.toList args.toList ds p := hA0
  rw [Tryd.params5] at hA hval
  obtain ⟨v0, v1, d0, d1, p0, p1, rfl, rfl, rfl, h0, h1⟩ := trodAll_two hA
  obtain ⟨rfl, rfl⟩ := trodVars_none hV
  have h0k := h0
  obtain ⟨n0, n1, n2, rfl, z0, z1, z2, z3, z4, z5⟩ := open_three_u32 (hval 0 44 v0 rfl rfl) h0
  obtain ⟨low, rfl, rfl, rfl, wl⟩ := open_int Tryd.underlying5 (hval 1 5 v1 rfl rfl) h1
  have hG := glob_of_laid hL
  clear hA0 hval0
  simp only [List.append_nil, List.nil_append] at hW'
  have hlt0 : ∀ x ∈ p0, x.block < W.heap.size := fun x hx => hW'.lt x (by simp [hx])
  refine (digits_r n0 n1 n2 low W hG z0 z1 z2 z3 z4 z5 (bounds_u8 wl).1 (bounds_u8 wl).2).mono fun e W' ⟨he, bel⟩ => ?_
  subst he
  have hT := trodAll_mk2 (Below.trod laidOut (by kernel_rfl) (of_decide_eq_true (by kernel_rfl)) h0k bel hlt0) (shut_int (enc := enc) (P := Tryd.prog) (w := W') (base := 0) (spare := fun b => decide (b < W.heap.size)) (held := true) Tryd.underlying5 wl)
  simp only [List.append_nil] at hT
  exact ⟨_, rfl, _, _, _, [], p0, [], hW', trodAll_mk1 (shut_bool Tryd.underlying4 true), hT, rfl, bel.frame _, fun h => by cases h⟩

theorem digits_r_row : Rows.SpanDigitsSaid :=
  OpenClaim.holds_of_wide 5 Tryd.f5 rfl rfl rfl rfl rfl rfl rfl ⟨rfl, rfl, rfl, rfl, rfl⟩ rfl rfl rfl rfl rfl (by kernel_rfl) Tryd.func5 (by kernel_rfl)
    (of_decide_eq_true (by kernel_rfl)) (by unfold Func.isWrapper; rw [if_neg (of_decide_eq_false (by kernel_rfl))]; exact ⟨rfl, rfl⟩)
    (fun os started H enc _ => digits_r_lifted os started H enc)

theorem spanDigits_card : Rows.SpanDigitsCardSaid :=
  Claim7.holds_tied_plain_at .later [] [.data] true (true, "1b6a43a16a9f9cd462b304886c01aae0e157d54aaff18af1319a937560da7f00") false
    digits_r_row (fun _ h => by cases h) (by kernel_rfl) (fun _ h => by cases h) spanDigits_row_tie rfl ⟨rfl, rfl⟩ (by kernel_rfl) rfl
    (fun f fn hf hfn => by
      obtain rfl : f = 5 := Option.some.inj ((show Tryd.prog.funcNamed "dobby/dobbylaw02.SpanDigits" = some 5 by kernel_rfl).symm.trans hf) |>.symm
      obtain rfl : fn = Tryd.f5 := (Option.some.inj (Tryd.func5.symm.trans hfn)).symm
      exact ⟨by kernel_rfl, fun j t ht => by
        rw [Tryd.params5] at ht
        have hm : t ∈ [44, 5] := by simpa using Array.mem_of_getElem? ht
        have hall : ([44, 5].all fun u => !Tryd.prog.wantsStandIn u) = true := by kernel_rfl
        exact (show Tryd.prog.wantsStandIn t = false by simpa using List.all_eq_true.1 hall t hm)⟩)
    (by kernel_rfl)
#print axioms spanDigits_card
end Go.Proofs.YtlpocahflolmpaaDoor
