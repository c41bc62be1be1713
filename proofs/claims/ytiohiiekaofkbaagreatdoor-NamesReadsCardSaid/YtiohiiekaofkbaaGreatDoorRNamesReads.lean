/-
  For any bytes, and any custom sections the document's module holds: names are read alike by the document's reader and by the program's, and what is read of the first section of that name is what the document reads of its bytes; where there is none, nothing is read (bytes of 2000 at most, 20 sections at most; greater ones are let go). No condition beyond the row's own.
-/
import Derived.Test.YtiohiiekaofkbaaGreatDoorRows
import Derived.Test.YtiohiiekaofkbaaGreatDoorCards
import Derived.Test.YtiohiiekaofkbaaGreatDoorTie
import Derived.Test.YtiohiiekaofkbaaGreatDoorZ17
import Derived.LaidMore
import Derived.Stop.Joined
import Derived.ProofKit
import Derived.ChangeOld
import Derived.SizedLaws
import Derived.ShutString
import Derived.ChangeMaps5
import Derived.OpenShut
namespace Go.Proofs.YtiohiiekaofkbaaGreatDoor
set_option linter.unusedVariables false
set_option linter.unusedSimpArgs false
open Go.ChangeShapes Go.WideShapes Go.ChangeAt Go.RowKit Go.Joins Go.ChangeMaps

theorem ownKn : ownKnob Tryz.prog.godebug = none := by kernel_rfl
theorem laidOutP : laidOutB Tryz.prog = true := by kernel_rfl
theorem kcS : Tryz.prog.cellsOf 171 = 2 := by kernel_rfl
theorem kc3 : Tryz.prog.cellsOf 3 = 1 := by kernel_rfl
theorem gNone : Tryz.prog.globalNamed "dobby/span.none" = some 2 := by kernel_rfl
theorem gNo : Tryz.prog.globalNamed "dobby/names.none" = some 1 := by kernel_rfl
theorem gAny : Tryz.prog.globalNamed "dobby/names.any2" = some 3 := by kernel_rfl
theorem gSome : Tryz.prog.globalNamed "dobby/names.some" = some 0 := by kernel_rfl
theorem tNone : (Tryz.prog.globals[2]?).map (·.type) = some 168 := by kernel_rfl
theorem tNo : (Tryz.prog.globals[1]?).map (·.type) = some 171 := by kernel_rfl
theorem tAny : (Tryz.prog.globals[3]?).map (·.type) = some 171 := by kernel_rfl
theorem tSome : (Tryz.prog.globals[0]?).map (·.type) = some 171 := by kernel_rfl
theorem kcR : Tryz.prog.cellsOf 168 = 2 := by kernel_rfl
theorem kcu64 : Tryz.prog.cellsOf 166 = 1 := by kernel_rfl
def zeroArgs : Array Value := #[.string ByteArray.empty, .slice none 0 0]
theorem door_met (os : Os) (args : Array Value) : laidMetH Tryz.prog Rows.namesReadsRow.laid ((World.doorLaid Tryz.prog 400 os).forCall (fun _ _ => 0) ⟨#[], args, []⟩).memory :=
  laidMetH_of_parts3 (fuel := 8) (laidMet_of_run' 8 (by kernel_rfl) (by kernel_rfl)) (by kernel_rfl) (by kernel_rfl)
set_option maxRecDepth 100000 in
theorem laid_span {W : World} {n : String} {a b : Int} {rest : List (String × DataW Unit)} {ps : List MemPlace} {g : Nat} (h : DataW.LaidVars Tryz.prog W ((n, .agg [.lit (.int .i64 a), .lit (.int .i64 b)]) :: rest) ps) (hn : Tryz.prog.globalNamed n = some g) (ht : (Tryz.prog.globals[g]?).map (·.type) = some 171) :
    W.cell? ⟨g, 0, none⟩ = some (.int .i64 a) ∧ W.cell? ⟨g, 1, none⟩ = some (.int .i64 b) ∧ ∃ qs, DataW.LaidVars Tryz.prog W rest qs := by
  obtain ⟨g0, t0, cs0, f0, p0, q0, hg0, ht0, hv0, hd0, hrest, _⟩ := h
  obtain rfl := Option.some.inj (hn.symm.trans hg0)
  obtain rfl := Option.some.inj (ht.symm.trans ht0)
  obtain ⟨y0, y1, n, hx, hlen, h0, h1⟩ := trod_struct2 Tryz.underlying171 hd0
  obtain ⟨c, e0, ea, _⟩ := DataW.trod_int Tryz.underlying3 h0
  obtain ⟨d, e1, eb, _⟩ := DataW.trod_int Tryz.underlying3 h1
  rw [kcS] at hlen
  rw [kc3] at e0 e1
  simp only [Prod.mk.injEq, DataW.agg.injEq, List.cons.injEq] at hx
  obtain ⟨⟨hx0, hx1, _⟩, _⟩ := hx
  rw [ea] at hx0
  rw [eb] at hx1
  have ha : c = a := by simpa using hx0.symm
  have hb : d = b := by simpa using hx1.symm
  subst ha hb
  have v0 := World.var?_cell hg0 hv0 0
  have v1 := World.var?_cell hg0 hv0 1
  obtain ⟨l⟩ := cs0
  match l, hlen, e0, e1 with
  | [x0, x1], _, e0, e1 =>
    simp at e0 e1
    subst e0 e1
    exact ⟨by simpa using v0, by simpa using v1, _, hrest⟩
set_option maxRecDepth 100000 in
theorem laid_range {W : World} {n : String} {a b : Int} {rest : List (String × DataW Unit)} {ps : List MemPlace} {g : Nat} (h : DataW.LaidVars Tryz.prog W ((n, .agg [.lit (.int .u64 a), .lit (.int .u64 b)]) :: rest) ps) (hn : Tryz.prog.globalNamed n = some g) (ht : (Tryz.prog.globals[g]?).map (·.type) = some 168) :
    W.cell? ⟨g, 0, none⟩ = some (.int .u64 a) ∧ W.cell? ⟨g, 1, none⟩ = some (.int .u64 b) ∧ ∃ qs, DataW.LaidVars Tryz.prog W rest qs := by
  obtain ⟨g0, t0, cs0, f0, p0, q0, hg0, ht0, hv0, hd0, hrest, _⟩ := h
  obtain rfl := Option.some.inj (hn.symm.trans hg0)
  obtain rfl := Option.some.inj (ht.symm.trans ht0)
  obtain ⟨y0, y1, n, hx, hlen, h0, h1⟩ := trod_struct2 Tryz.underlying168 hd0
  obtain ⟨c, e0, ea, _⟩ := DataW.trod_int Tryz.underlying166 h0
  obtain ⟨d, e1, eb, _⟩ := DataW.trod_int Tryz.underlying166 h1
  rw [kcR] at hlen
  rw [kcu64] at e0 e1
  simp only [Prod.mk.injEq, DataW.agg.injEq, List.cons.injEq] at hx
  obtain ⟨⟨hx0, hx1, _⟩, _⟩ := hx
  rw [ea] at hx0
  rw [eb] at hx1
  have ha : c = a := by simpa using hx0.symm
  have hb : d = b := by simpa using hx1.symm
  subst ha hb
  have v0 := World.var?_cell hg0 hv0 0
  have v1 := World.var?_cell hg0 hv0 1
  obtain ⟨l⟩ := cs0
  match l, hlen, e0, e1 with
  | [x0, x1], _, e0, e1 =>
    simp at e0 e1
    subst e0 e1
    exact ⟨by simpa using v0, by simpa using v1, _, hrest⟩
theorem globs_of_laid {W : World} (h : laidMetH Tryz.prog Rows.namesReadsRow.laid W) : Glob W ∧ GlobM W := by
  rw [MakeChecks.laidMetH_plain _ _ _ (by kernel_rfl)] at h
  obtain ⟨ps, h1, _⟩ := h
  obtain ⟨a0, a1, q1, h2⟩ := laid_range h1 gNone tNone
  obtain ⟨n0, n1, q2, h3⟩ := laid_span h2 gNo tNo
  obtain ⟨y0, y1, q3, h4⟩ := laid_span h3 gAny tAny
  obtain ⟨s0, s1, q4, h5⟩ := laid_span h4 gSome tSome
  exact ⟨⟨cell_lt a0, a0, a1⟩, ⟨y0, y1, s0, s1, n0, n1⟩⟩
set_option maxRecDepth 100000 in
theorem nreads_lifted (os : Os) (started : os.Started) (H : Type) (enc : TypeId × Value → H) :
    ReturnsInHanded {} Tryz.checked os 3 .any (fun w args => (Rows.namesReadsSpec.pre enc Tryz.prog Tryz.f3 [] false w args ∧ laidMetH Tryz.prog Rows.namesReadsRow.laid w) ∧ sizedMet enc Tryz.prog Tryz.f3 (OpenSpec.ofChange Rows.namesReadsSpec) false w args)
      (Rows.namesReadsSpec.post enc Tryz.prog Tryz.f3 false true false false) := by
  refine returnsInHanded_of_change_and (C := Tryz.checked) (X := fun w _ => laidMetH Tryz.prog Rows.namesReadsRow.laid w) (fun _ _ _ hh h => h.of_heap hh) ownKn started (by kernel_rfl) Tryz.func3
    (ChangeSpec.witness_shaped (enc := enc) (C := Tryz.checked) (os := os) (X := fun w _ => laidMetH Tryz.prog Rows.namesReadsRow.laid w) false (World.doorLaid Tryz.prog 400 os) zeroArgs 8 rfl (World.shaped_of_RefB (by kernel_rfl) (by kernel_rfl)) (by kernel_rfl) (by kernel_rfl) (by kernel_rfl) (door_met os _)) ?_
  intro W base args ds gs before hval0 hW _ hsz0 hL _
  have hsz : (DataW.weightsEach Tryz.prog (Tryz.f3.params.toList ++ Rows.namesReadsSpec.plain.varTypes Tryz.prog) (ds ++ gs)).all (· ≤ reachBytes) = true := hsz0
  have hval : ∀ (j : Nat) t v, Tryz.f3.params[j]? = some t → args[j]? = some v → Value.okWide Tryz.prog W .any base t v := hval0
  have hW' := hW
  obtain ⟨p, q, hA0, hV, rfl, hfz, hnd⟩ := hW
  have hA : DataW.TrodAll enc Tryz.prog W 0 (fun _ => true) true Tryz.f3.params.toList args.toList ds p := hA0
  rw [Tryz.params3] at hA hval
  obtain ⟨v0, v1, d0, d1, p0, p1, rfl, rfl, rfl, h0, h1⟩ := trodAll_two hA
  obtain ⟨rfl, rfl⟩ := trodVars_none hV
  have hwt : ∀ (j : Nat) (t : TypeId) (d : DataW H), [9, 22][j]? = some t → [d0, d1][j]? = some d → ∀ m ∈ d.weights Tryz.prog t, m ≤ 140737488351232 := by
    intro j t d ht hd m hm
    have hin := DataW.weights_mem_each ht hd m hm
    have hsz2 : (DataW.weightsEach Tryz.prog [9, 22] [d0, d1]).all (· ≤ reachBytes) = true := by
      have e : Tryz.f3.params.toList ++ Rows.namesReadsSpec.plain.varTypes Tryz.prog = [9, 22] := by rw [Tryz.params3]; rfl
      rw [e] at hsz
      simpa using hsz
    have := List.all_eq_true.1 hsz2 m hin
    exact of_decide_eq_true this
  obtain ⟨s, rfl, rfl, rfl, ws⟩ := open_string Tryz.underlying9 (hval 0 9 v0 rfl rfl) h0
  have wsz : s.size ≤ 140737488355328 := by
    have := hwt 0 9 _ rfl rfl s.data.toList.length (by simp [DataW.weights])
    rw [Array.length_toList] at this
    exact Nat.le_trans this (by decide)
  obtain ⟨a1, len1, c1, rfl⟩ := okWide_slice Tryz.underlying22 (hval 1 22 v1 rfl rfl)
  have k1 := h1
  obtain ⟨fuel, hf⟩ := h1
  obtain ⟨xs, ⟨A1, c1', e1, hc1, hC⟩, hfn, hfa⟩ := opn_customs _ _ _ hf (hwt 1 _ _ rfl rfl)
  simp [Value.cells] at e1
  obtain ⟨rfl, rfl, rfl⟩ := e1
  have lt1 : ∀ z ∈ p1, z.block < W.heap.size := by obtain ⟨m, hm⟩ := k1; exact DataW.trod_lt m _ _ _ hm
  have hG := globs_of_laid hL
  clear hA0 hval0 hsz0 hsz hwt
  simp only [List.append_nil, List.nil_append] at hW'
  refine (reads_law s a1 c1 xs W (cus_at hC) (by omega) wsz (fun x hx => by have := (hfa x hx).2.2; omega) hG.1 hG.2).mono fun r W' ⟨he, bel⟩ => ?_
  subst he
  exact ⟨_, rfl, _, _, _, [], _, [], hW', trodAll_mk1 (shut_bool Tryz.underlying4 true), trodAll_mk2 (shut_string Tryz.underlying9 ws) (Below.trod laidOutP (by kernel_rfl) (of_decide_eq_true (by kernel_rfl)) k1 bel lt1), rfl, bel.frame _, fun h => by cases h⟩

theorem nreads_row : Rows.NamesReadsSaid :=
  OpenClaim.holds_of_wide 3 Tryz.f3 rfl rfl rfl rfl rfl rfl rfl ⟨rfl, rfl, rfl, rfl, rfl⟩ rfl rfl rfl rfl rfl (by kernel_rfl) Tryz.func3 (by kernel_rfl)
    (of_decide_eq_true (by kernel_rfl)) (by unfold Func.isWrapper; rw [if_neg (of_decide_eq_false (by kernel_rfl))]; exact ⟨rfl, rfl⟩)
    (fun os started H enc _ => nreads_lifted os started H enc)

theorem namesReads_card : Rows.NamesReadsCardSaid :=
  Claim7.holds_tied_plain_at .later [] [.data, .data, .wider, .wider] true (true, "673ded226007a42ea84a25e72185befd25867f745fa8eb8a7c56cfe7f4772389") true
    nreads_row (fun _ h => by cases h) (by kernel_rfl) (fun _ h => by cases h) namesReads_row_tie rfl ⟨rfl, rfl⟩ (by kernel_rfl) rfl
    (fun f fn hf hfn => by
      obtain rfl : f = 3 := Option.some.inj ((show Tryz.prog.funcNamed "dobby/dobbylaw14.NamesReads" = some 3 by kernel_rfl).symm.trans hf) |>.symm
      obtain rfl : fn = Tryz.f3 := (Option.some.inj (Tryz.func3.symm.trans hfn)).symm
      exact ⟨by kernel_rfl, fun j t ht => by
        rw [Tryz.params3] at ht
        have hm : t ∈ [9, 22] := by simpa using Array.mem_of_getElem? ht
        have hall : ([9, 22].all fun u => !Tryz.prog.wantsStandIn u) = true := by kernel_rfl
        exact (show Tryz.prog.wantsStandIn t = false by simpa using List.all_eq_true.1 hall t hm)⟩)
    (by kernel_rfl)
#print axioms namesReads_card
end Go.Proofs.YtiohiiekaofkbaaGreatDoor
