/- Texts of this claim, as far as they are used here: L8, L13, M4. -/
import Derived.Test.YtiohiiekaofkbaaGreatDoorZ10
import Derived.Test.YtiohiiekaofkbaaGreatDoorZ14
import Derived.Test.YtiohiiekaofkbaaGreatDoorZ11
/- The document's Read, walked. -/
namespace Go.Proofs.YtiohiiekaofkbaaGreatDoor
set_option linter.unusedVariables false
set_option linter.unusedSimpArgs false
open Go.RowKit Go.Proofs.YtiohiiekaofkbaaGreatDoor.PNamesReads Go.Proofs.YtiohiiekaofkbaaGreatDoorW.PrintWords
theorem dp_step {s s1 s2 x : ByteArray} {n : Int} {b1 b2 : Bool} (h1 : (b1 = true ∧ numL (ns s) = none) ∨ (b1 = false ∧ numL (ns s) = some (n, ns s1)))
    (h2 : (b2 = true ∧ (if b1 = true then none else dRaw n (ns s1)) = none) ∨ (b2 = false ∧ b1 = false ∧ dRaw n (ns s1) = some (x, ns s2))) : (b2 = true → dPart (ns s) = none) ∧ (b2 = false → dPart (ns s) = some (x, ns s2)) := by
  unfold dPart
  rcases h1 with ⟨rfl, h1⟩ | ⟨rfl, h1⟩
  · rw [h1]
    rcases h2 with ⟨rfl, -⟩ | ⟨-, h, -⟩
    · exact ⟨fun _ => rfl, fun h => (by cases h)⟩
    · cases h
  · rw [h1]
    simp only
    rcases h2 with ⟨rfl, h2⟩ | ⟨rfl, -, h2⟩
    · have h2 : dRaw n (ns s1) = none := h2
      exact ⟨fun _ => h2, fun h => (by cases h)⟩
    · exact ⟨fun h => (by cases h), fun _ => h2⟩
def PostDR (w : World) (r : Option NmV) (e : Ending) (w' : World) : Prop := match r with
  | some V => ∃ (x : dNs) (v4 v5 : Value), x.v = V ∧ e = .returned (.tuple #[.agg #[.bool x.hm, .bool x.hf, .bool x.hl, .string x.md, v4, v5], .bool true]) ∧ k182.R 182 w' w.heap.size (fun k => w.heap.size ≤ k) v4 x.fs ∧ k86.R 86 w' w.heap.size (fun k => w.heap.size ≤ k) v5 x.ls
  | none => e = .returned (.tuple #[.agg #[.bool false, .bool false, .bool false, .string ⟨#[]⟩, .slice none 0 0, .slice none 0 0], .bool false])
def szOf (g : Nat) (w : World) : Nat := match w.cell? ⟨g, 0, none⟩ with | some (.string s) => s.size | _ => 0
theorem RdC.szOf {g : Nat} {s : ByteArray} {b : Bool} {w : World} (h : RdC g s b w) : szOf g w = s.size := by unfold Go.Proofs.YtiohiiekaofkbaaGreatDoor.szOf; rw [h.c0]
structure DL (RB : Nat) (w : World) (M : Option NmV) (last : Int) (s : ByteArray) (b : Bool) (x : dNs) (W : World) : Prop where
  rb : NmC RB false false false ⟨#[]⟩ (.slice none 0 0) (.slice none 0 0) W
  rc : RdC (RB + 1) s b W
  dn : DN (RB + 1 + 1) RB (fun k => RB + 1 + 1 < k) x W
  no : b = true → M = none
  yes : b = false → (last < 2 → x.ls = []) ∧ ∃ k, s.size ≤ k ∧ M = dRows k last x.v (ns s)
  be : Below RB w W
  l0 : -1 ≤ last
  l1 : last ≤ 255
theorem rd_base2 {B g : Nat} {w W W' : World} (hb : Below B w W) (hR : Rd g W W') (hg : B ≤ g) (hB : B ≤ w.heap.size) : Below B w W' :=
  ⟨hR.os.trans hb.os, hR.tape.trans hb.tape, hR.output.trans hb.output, Nat.le_trans hb.size hR.size, fun i hi => (hR.block i (by have := hb.size; omega) (fun e => by have := Option.some.inj e; omega)).trans (hb.block i hi)⟩
structure DS (RB IN : Nat) (w : World) (s2 : ByteArray) (b2 : Bool) (p : ByteArray) (b : Bool) (x : dNs) (W : World) : Prop where
  rb : NmC RB false false false ⟨#[]⟩ (.slice none 0 0) (.slice none 0 0) W
  rg : RdC (RB + 1) s2 b2 W
  ri : RdC IN p b W
  dn : DN (RB + 1 + 1) RB (fun k => RB + 1 + 1 < k ∧ k ≠ IN) x W
  be : Below RB w W
  lt : RB + 1 + 1 < IN
  wl : RB = w.heap.size
theorem DS.rd {RB IN : Nat} {w : World} {s2 : ByteArray} {b2 : Bool} {p p' : ByteArray} {b b' : Bool} {x : dNs} {W W' : World} (h : DS RB IN w s2 b2 p b x W) (hR : Rd IN W W') (hC : RdC IN p' b' W') : DS RB IN w s2 b2 p' b' x W' := by
  have hlt := h.lt
  have hi := h.ri.lt
  have e : ∀ k, k ≠ IN → k < W.heap.size → W'.heap[k]? = W.heap[k]? := fun k hk hl => hR.block k hl (fun q => hk (Option.some.inj q))
  exact ⟨h.rb.blk (e _ (by omega) (by omega)), h.rg.blk (e _ (by omega) (by omega)), hC, h.dn.step (e _ (by omega) (by omega)) (fun k hk hl => e k hk.2 hl), rd_base2 h.be hR (by omega) (Nat.le_of_eq h.wl), hlt, h.wl⟩
theorem DS.nb {RB IN : Nat} {w : World} {s2 : ByteArray} {b2 : Bool} {p : ByteArray} {b : Bool} {x x' : dNs} {W W' : World} (h : DS RB IN w s2 b2 p b x W) (hR : Rd (RB + 1 + 1) W W') (hd : DN (RB + 1 + 1) RB (fun k => RB + 1 + 1 < k ∧ k ≠ IN) x' W') : DS RB IN w s2 b2 p b x' W' := by
  have hlt := h.lt
  have hi := h.ri.lt
  have e : ∀ k, k ≠ RB + 1 + 1 → k < W.heap.size → W'.heap[k]? = W.heap[k]? := fun k hk hl => hR.block k hl (fun q => hk (Option.some.inj q))
  exact ⟨h.rb.blk (e _ (by omega) (by omega)), h.rg.blk (e _ (by omega) (by omega)), h.ri.blk (e _ (by omega) hi), hd, rd_base2 h.be hR (by omega) (Nat.le_of_eq h.wl), hlt, h.wl⟩
theorem sw_txt {p s5 t : ByteArray} {b5 b9 : Bool} {x : dNs} (h : (b5 = true ∧ (if b9 = true then none else dTxt (ns p)) = none) ∨ (b5 = false ∧ b9 = false ∧ dTxt (ns p) = some (t, ns s5))) :
    (b5 = true → b9 = true ∨ dBody 0 x.v (ns p) = none) ∧ (b5 = false → b9 = false ∧ dBody 0 x.v (ns p) = some ((⟨true, x.hf, x.hl, t, x.fs, x.ls⟩ : dNs).v, ns s5)) := by
  unfold dBody
  rw [if_pos rfl]
  rcases h with ⟨rfl, h⟩ | ⟨rfl, rfl, h⟩
  · refine ⟨fun _ => ?_, fun h => (by cases h)⟩
    cases b9
    · have h : dTxt (ns p) = none := h
      rw [h]; exact .inr rfl
    · exact .inl rfl
  · rw [h]
    exact ⟨fun h => (by cases h), fun _ => ⟨rfl, rfl⟩⟩
theorem sw_list {p s5 : ByteArray} {ys : List S182} {b5 b9 : Bool} {x : dNs} (h : (b5 = true ∧ (if b9 = true then none else dList mkN (ns p)) = none) ∨ (b5 = false ∧ b9 = false ∧ dList mkN (ns p) = some (ys.map toN, ns s5))) :
    (b5 = true → b9 = true ∨ dBody 1 x.v (ns p) = none) ∧ (b5 = false → b9 = false ∧ dBody 1 x.v (ns p) = some ((⟨x.hm, true, x.hl, x.md, ys, x.ls⟩ : dNs).v, ns s5)) := by
  unfold dBody
  rw [if_neg (by decide), if_pos rfl]
  rcases h with ⟨rfl, h⟩ | ⟨rfl, rfl, h⟩
  · refine ⟨fun _ => ?_, fun h => (by cases h)⟩
    cases b9
    · have h : dList mkN (ns p) = none := h
      rw [h]; exact .inr rfl
    · exact .inl rfl
  · rw [h]
    exact ⟨fun h => (by cases h), fun _ => ⟨rfl, rfl⟩⟩
theorem dl_step {s s1 s2 : ByteArray} {ys : List S182} {ix : Int} {b1 b2 : Bool} (h1 : (b1 = true ∧ numL (ns s) = none) ∨ (b1 = false ∧ numL (ns s) = some (ix, ns s1)))
    (h2 : (b2 = true ∧ (if b1 = true then none else dList mkN (ns s1)) = none) ∨ (b2 = false ∧ b1 = false ∧ dList mkN (ns s1) = some (ys.map toN, ns s2))) : (b2 = true → dStep mkL (ns s) = none) ∧ (b2 = false → dStep mkL (ns s) = some (toL ⟨ix, ys⟩, ns s2) ∧ s2.size < s.size) := by
  unfold dStep
  rcases h1 with ⟨rfl, h1⟩ | ⟨rfl, h1⟩
  · rw [h1]
    rcases h2 with ⟨rfl, -⟩ | ⟨-, h, -⟩
    · exact ⟨fun _ => rfl, fun h => (by cases h)⟩
    · cases h
  · obtain ⟨-, -, hl1, hl8⟩ := numL_rest (ns_u8 s) h1
    rw [h1]
    simp only
    unfold mkL
    rcases h2 with ⟨rfl, h2⟩ | ⟨rfl, -, h2⟩
    · have h2 : dList mkN (ns s1) = none := h2
      rw [h2]
      exact ⟨fun _ => rfl, fun h => (by cases h)⟩
    · have hl2 := (dList_rest mkN_rest (ns_u8 s1) h2).1
      rw [ns_length] at hl1
      rw [ns_length, ns_length] at hl2
      rw [ns_length] at hl1
      rw [h2]
      exact ⟨fun h => (by cases h), fun _ => ⟨rfl, by omega⟩⟩
theorem nxL_last (zs : List S86) (m : Nat) (h : zs.length = m + 1) : nxO (fun x : S90 => x.f0) (zs.map toL) = (rd_T86 zs m).f0 + 1 := by
  unfold nxO
  rw [List.getLast?_eq_getElem?, List.length_map, h, List.getElem?_map]
  have hm : m < zs.length := by omega
  rw [show m + 1 - 1 = m by omega, List.getElem?_eq_getElem hm]
  have : rd_T86 zs m = zs[m] := by simp [rd_T86, List.getD_eq_getElem?_getD, List.getElem?_eq_getElem hm]
  rw [this]; rfl
theorem info_rLocal : (Tryz.prog.info? 86).map (fun i => (i.zero, i.size, i.bytes)) = some (some (.agg #[(.int .u32 0), (.slice none 0 0)]), 2, 32) := by kernel_rfl
theorem row_step {st p s2 s3 : ByteArray} {X last : Int} {b2 b9 b3 : Bool} {V V3 : NmV} {k : Nat} (h1 : (b2 = true → dPart (ns st) = none) ∧ (b2 = false → dPart (ns st) = some (p, ns s2))) (h9 : (b2 || decide (X ≤ last) || decide (2 < X)) = b9)
    (hA : b3 = true → b9 = true ∨ dBody X V (ns p) = none) (hB : b3 = false → b9 = false ∧ dBody X V (ns p) = some (V3, ns s3)) :
    ((b2 || b3 || decide (0 < s3.size)) = true → dRows (k + 1) last V (X :: ns st) = none) ∧ ((b2 || b3 || decide (0 < s3.size)) = false → dRows (k + 1) last V (X :: ns st) = dRows k X V3 (ns s2) ∧ last < X ∧ b3 = false) := by
  cases b2 with
  | true =>
    refine ⟨fun _ => ?_, fun h => (by simp at h)⟩
    rw [dRows, dRow, h1.1 rfl]
  | false =>
    have hp := h1.2 rfl
    cases b3 with
    | true =>
      refine ⟨fun _ => ?_, fun h => (by simp at h)⟩
      rw [dRows, dRow, hp]
      simp only
      rcases hA rfl with h | h
      · have : X ≤ last ∨ 2 < X := by rw [h] at h9; simpa using h9
        rw [if_pos this]
      · rw [h]
        by_cases hx : X ≤ last ∨ 2 < X
        · rw [if_pos hx]
        · rw [if_neg hx]
    | false =>
      obtain ⟨h, hb⟩ := hB rfl
      have hx : ¬ (X ≤ last ∨ 2 < X) := by
        rw [h] at h9
        simp at h9
        omega
      have hl := ns_length s3
      rw [dRows, dRow, hp]
      simp only
      rw [if_neg hx, hb]
      simp only [Bool.false_or, decide_eq_true_eq, decide_eq_false_iff_not]
      refine ⟨fun h => ?_, fun h => ⟨?_, by omega, trivial⟩⟩
      · rw [if_neg (fun e => by rw [e] at hl; simp at hl; omega)]
      · rw [if_pos (List.length_eq_zero_iff.1 (by omega))]
theorem heap_set6 (W : World) (g k : Nat) (h : k ≠ g) (a b c d e f : Value) : ((((((W.setCell ⟨g, 0, none⟩ a).setCell ⟨g, 1, none⟩ b).setCell ⟨g, 2, none⟩ c).setCell ⟨g, 3, none⟩ d).setCell ⟨g, 4, none⟩ e).setCell ⟨g, 5, none⟩ f).heap[k]? = W.heap[k]? := by
  rw [heap_setCell_other _ _ _ _ h, heap_setCell_other _ _ _ _ h, heap_setCell_other _ _ _ _ h, heap_setCell_other _ _ _ _ h, heap_setCell_other _ _ _ _ h, heap_setCell_other _ _ _ _ h]
theorem below_set6 {B : Nat} {w W : World} (h : Below B w W) (g : Nat) (hg : B ≤ g) (a b c d e f : Value) : Below B w ((((((W.setCell ⟨g, 0, none⟩ a).setCell ⟨g, 1, none⟩ b).setCell ⟨g, 2, none⟩ c).setCell ⟨g, 3, none⟩ d).setCell ⟨g, 4, none⟩ e).setCell ⟨g, 5, none⟩ f) :=
  (((((h.setCell (p := ⟨g, 0, none⟩) hg a).setCell (p := ⟨g, 1, none⟩) hg b).setCell (p := ⟨g, 2, none⟩) hg c).setCell (p := ⟨g, 3, none⟩) hg d).setCell (p := ⟨g, 4, none⟩) hg e).setCell (p := ⟨g, 5, none⟩) hg f
set_option maxRecDepth 100000 in
set_option maxHeartbeats 8000000 in
theorem dread_walk (s : ByteArray) (w : World) (hs : s.size ≤ 1000000) :
    Calls Tryz.prog 5 #[.string s] w (fun e w' => Below w.heap.size w w' ∧ PostDR w (dRead (ns s)) e w') := by
  obtain ⟨M, hM⟩ : ∃ M, dRead (ns s) = M := ⟨_, rfl⟩
  rw [hM]
  have HM := hid hM
  clear hM
  go_enter Tryz.func5, Tryz.ntmps5
  go_wp2_with fail
  go_loopw [6] (fun v6 wr => ∃ (last : Int) (s' : ByteArray) (bb : Bool) (x : dNs), v6 = .int .i64 last ∧ s'.size ≤ s.size ∧ Hid (DL w.heap.size w M last s' bb x wr)) (fun _ wr => szOf (w.heap.size + 1) wr)
  case atStart => exact ⟨-1, s, false, ⟨false, false, false, ⟨#[]⟩, [], []⟩, by go_num, Nat.le_refl _, hid ⟨⟨by go_simp, by go_simp, by go_simp, by go_simp, by go_simp, by go_simp, by go_simp, by go_simp, by go_simp, by go_simp, by go_simp, by go_simp⟩, ⟨by go_simp, by go_simp, by go_simp, by go_simp⟩,
      ⟨_, _, ⟨by go_simp, by go_simp, by go_simp, by go_simp, by go_simp, by go_simp, by go_simp, by go_simp, by go_simp, by go_simp, by go_simp, by go_simp⟩, Kd.R_nil _ _ _ _ _, Kd.R_nil _ _ _ _ _⟩, fun h => (by cases h), fun _ => ⟨fun _ => rfl, (ns s).length, by rw [ns_length]; exact Nat.le_refl _, HM.out.symm⟩, bel, by decide, by decide⟩⟩
  case round =>
    obtain ⟨last, s', bb, x, rfl, hsz, HD⟩ := hrel
    obtain ⟨c0, c1, f0, f1⟩ := HD.out.rc
    have hl0 := HD.out.l0
    have hl1 := HD.out.l1
    have hend : s'.size = 0 ∨ 0 < s'.size := by omega
    cases bb with
    | true =>
      have HZ := hid (HD.out.no rfl)
      have HNB := HD.out.rb
      obtain ⟨r0, r1, r2, r3, r4, r5, z0, z1, z2, z3, z4, z5⟩ := HNB
      rcases hend with he | he
      · obtain ⟨-, he2⟩ := empty_yes he
        go_wp2_with fail
        have hb := HD.out.be
        obtain ⟨W9, hW9⟩ : ∃ W9, W9 = (((((wr.setCell ⟨w.heap.size, 0, none⟩ (.bool false)).setCell ⟨w.heap.size, 1, none⟩ (.bool false)).setCell ⟨w.heap.size, 2, none⟩ (.bool false)).setCell ⟨w.heap.size, 3, none⟩ (.string ⟨#[]⟩)).setCell ⟨w.heap.size, 4, none⟩ (.slice none 0 0)).setCell ⟨w.heap.size, 5, none⟩ (.slice none 0 0) := ⟨_, rfl⟩
        have hb9 : Below w.heap.size w W9 := by rw [hW9]; exact below_set6 hb _ (Nat.le_refl _) _ _ _ _ _ _
        obtain ⟨t0, t1, t2, t3, t4, t5, -, -, -, -, -, -⟩ := (show NmC w.heap.size false false false ⟨#[]⟩ (.slice none 0 0) (.slice none 0 0) W9 by rw [hW9]; exact (((((HD.out.rb.set0 _).set1 _).set2 _).set3 _).set4 _).set5 _)
        rw [← hW9]
        refine bodyPost_ret (v := .tuple #[.agg #[.bool false, .bool false, .bool false, .string ⟨#[]⟩, .slice none 0 0, .slice none 0 0], .bool false]) (by simp [results, Tryz.results5, go_sem, t0, t1, t2, t3, t4, t5]) rfl ⟨hb9, ?_⟩
        rw [HZ.out]
        exact rfl
      · have he2 := empty_no he
        go_wp2_with fail
        have hb := HD.out.be
        obtain ⟨W9, hW9⟩ : ∃ W9, W9 = (((((wr.setCell ⟨w.heap.size, 0, none⟩ (.bool false)).setCell ⟨w.heap.size, 1, none⟩ (.bool false)).setCell ⟨w.heap.size, 2, none⟩ (.bool false)).setCell ⟨w.heap.size, 3, none⟩ (.string ⟨#[]⟩)).setCell ⟨w.heap.size, 4, none⟩ (.slice none 0 0)).setCell ⟨w.heap.size, 5, none⟩ (.slice none 0 0) := ⟨_, rfl⟩
        have hb9 : Below w.heap.size w W9 := by rw [hW9]; exact below_set6 hb _ (Nat.le_refl _) _ _ _ _ _ _
        obtain ⟨t0, t1, t2, t3, t4, t5, -, -, -, -, -, -⟩ := (show NmC w.heap.size false false false ⟨#[]⟩ (.slice none 0 0) (.slice none 0 0) W9 by rw [hW9]; exact (((((HD.out.rb.set0 _).set1 _).set2 _).set3 _).set4 _).set5 _)
        rw [← hW9]
        refine bodyPost_ret (v := .tuple #[.agg #[.bool false, .bool false, .bool false, .string ⟨#[]⟩, .slice none 0 0, .slice none 0 0], .bool false]) (by simp [results, Tryz.results5, go_sem, t0, t1, t2, t3, t4, t5]) rfl ⟨hb9, ?_⟩
        rw [HZ.out]
        exact rfl
    | false =>
      rcases hend with he | he
      · obtain ⟨-, he2⟩ := empty_yes he
        obtain ⟨v4, v5, hn, h4, h5⟩ := HD.out.dn
        obtain ⟨A4, c4, rfl⟩ := Kd.R_slice h4
        obtain ⟨A5, c5, rfl⟩ := Kd.R_slice h5
        have HN := hid hn
        have H4 := hid h4
        have H5 := hid h5
        obtain ⟨n0, n1, n2, n3, n4, n5, -, -, -, -, -, -⟩ := hn
        obtain ⟨r0, r1, r2, r3, r4, r5, z0, z1, z2, z3, z4, z5⟩ := HD.out.rb
        clear h4 h5
        go_wp2_with fail
        have hb := HD.out.be
        obtain ⟨-, k, -, hMk⟩ := HD.out.yes rfl
        have hns : ns s' = [] := List.length_eq_zero_iff.1 (by rw [ns_length]; exact he)
        rw [hns, dRows_nil] at hMk
        obtain ⟨W9, hW9⟩ : ∃ W9, W9 = (((((wr.setCell ⟨w.heap.size, 0, none⟩ (.bool x.hm)).setCell ⟨w.heap.size, 1, none⟩ (.bool x.hf)).setCell ⟨w.heap.size, 2, none⟩ (.bool x.hl)).setCell ⟨w.heap.size, 3, none⟩ (.string x.md)).setCell ⟨w.heap.size, 4, none⟩ (.slice A4 x.fs.length c4)).setCell ⟨w.heap.size, 5, none⟩ (.slice A5 x.ls.length c5) := ⟨_, rfl⟩
        have hb9 : Below w.heap.size w W9 := by rw [hW9]; exact below_set6 hb _ (Nat.le_refl _) _ _ _ _ _ _
        have hq : ∀ k, w.heap.size + 1 + 1 < k → k < wr.heap.size → W9.heap[k]? = wr.heap[k]? := fun k hk _ => by rw [hW9]; exact heap_set6 wr _ k (by omega) _ _ _ _ _ _
        have h4 := Kd.R_mono (ok' := fun k => w.heap.size ≤ k) (Kd.R_step H4.out hq) (fun k hk => by omega)
        have h5 := Kd.R_mono (ok' := fun k => w.heap.size ≤ k) (Kd.R_step H5.out hq) (fun k hk => by omega)
        obtain ⟨t0, t1, t2, t3, t4, t5, -, -, -, -, -, -⟩ := (show NmC w.heap.size x.hm x.hf x.hl x.md (.slice A4 x.fs.length c4) (.slice A5 x.ls.length c5) W9 by rw [hW9]; exact (((((HD.out.rb.set0 _).set1 _).set2 _).set3 _).set4 _).set5 _)
        rw [← hW9]
        refine bodyPost_ret (v := .tuple #[.agg #[.bool x.hm, .bool x.hf, .bool x.hl, .string x.md, .slice A4 x.fs.length c4, .slice A5 x.ls.length c5], .bool true]) (by simp [results, Tryz.results5, go_sem, t0, t1, t2, t3, t4, t5]) rfl ⟨hb9, ?_⟩
        rw [hMk]
        exact ⟨x, _, _, rfl, rfl, h4, h5⟩
      · have he2 := empty_no he
        have hb0 := (UInt8.toNat_lt s'[0])
        obtain ⟨st, hst⟩ : ∃ st, s'.extract 1 s'.size = st := ⟨_, rfl⟩
        have hnst : ns s' = (s'[0].toNat : Int) :: ns st := by
          rw [← hst, ns_extract s' 1 (by omega), ← ns_drop s' 0 he, List.drop_zero]
        have hsst : st.size + 1 = s'.size := by
          have e1 := ns_length s'
          rw [hnst, List.length_cons, ns_length] at e1
          exact e1
        have HNU := hid (num2 (w.heap.size + 1) st false (wr.setCell ⟨w.heap.size + 1, 0, none⟩ (.string st)) (HD.out.rc.set0 st) (by omega))
        have HRW := hid (fun (W : World) (s1 : ByteArray) (b1 : Bool) (n : Int) (h1 : RdC (w.heap.size + 1) s1 b1 W) (hs1 : s1.size ≤ 1000000000) (n0 : 0 ≤ n) (n1 : n ≤ 4294967295) => raw2 (w.heap.size + 1) s1 b1 n W h1 hs1 n0 n1)
        have HNST := hid hnst
        have HSS := hid hst
        clear hnst
        go_upto_region 8 with (first | (go_at_call 19; go_loud ((with_reducible refine HNU.out.mono ?_); rintro e w1 ⟨n, s1, b1, rfl, n0, n1, hC1, hz1, hR1, hN1⟩; have HC1 := hid hC1; have HR1 := hid hR1; have HN1 := hid hN1; clear hC1 hR1 hN1)) | (go_at_call 18; go_loud ((with_reducible refine (HRW.out w1 s1 b1 n HC1.out (by omega) n0 n1).mono ?_); rintro e w2 ⟨p, s2, b2, rfl, hp, hC2, hz2, hR2, hN2⟩; have HC2 := hid hC2; have HR2 := hid hR2; have HN2 := hid hN2; clear hC2 hR2 hN2)))
        clear c0 c1 f0 f1 HNU HRW
        obtain ⟨c0, c1, f0, f1⟩ := HC2.out
        go_upto_region 9 with fail
        obtain ⟨X, hX⟩ : ∃ X : Int, (s'[0].toNat : Int) = X := ⟨_, rfl⟩
        rw [hX] at HNST ⊢
        have hX0 : 0 ≤ X ∧ X ≤ 255 := by omega
        obtain ⟨W3, hW3⟩ : ∃ W3, W3 = w2.alloc (.cells #[.string p, .bool b2] 80) := ⟨_, rfl⟩
        obtain ⟨IN, hIN⟩ : ∃ IN, w2.heap.size = IN := ⟨_, rfl⟩
        have hlt2 : w.heap.size + 1 + 1 < IN := by
          have z1 := HD.out.dn.lt
          have z2 := HR1.out.size
          have z3 := HR2.out.size
          simp at z2
          omega
        have HDS := hid (show DS w.heap.size IN w s2 b2 p b2 x W3 by
          have hR : Rd (w.heap.size + 1) wr w2 := (grown_setCell wr _ 0 _).trans (HR1.out.trans HR2.out)
          have hb : Below w2.heap.size w2 W3 := by rw [hW3]; exact bel
          have e : ∀ k, k ≠ w.heap.size + 1 → k < wr.heap.size → W3.heap[k]? = wr.heap[k]? := fun k hk hl => (hb.block k (Nat.lt_of_lt_of_le hl hR.size)).trans (hR.block k hl (fun q => hk (Option.some.inj q)))
          have hn := HD.out.dn.lt
          have hz := hR.size
          have hl := HD.out.rb.lt
          refine ⟨HD.out.rb.blk (e _ (by omega) hl), HC2.out.below hb, ?_, ?_, (rd_base2 HD.out.be hR (by omega) (Nat.le_refl _)).trans (hb.mono (by omega)), hlt2, rfl⟩
          · rw [← hIN, hW3]; exact ⟨by go_simp, by go_simp, by go_simp, by go_simp⟩
          · exact ((HD.out.dn.bound.step (e _ (by omega) hn) (fun k hk hl => e k (by omega) hl)).mono (fun k hk => ⟨hk.1, by omega⟩)))
        have HPT := hid (dp_step (s := st) (s1 := s1) (s2 := s2) (x := p) (n := n) (b1 := b1) (b2 := b2) (by simpa using HN1.out) HN2.out)
        rw [hIN, ← hW3]
        clear hW3 c0 c1 f0 f1 HN1 HN2 HR1 HR2 HC1 HC2 hX
        obtain ⟨b9, hb9⟩ : ∃ b9 : Bool, (b2 || decide (X ≤ last) || decide (2 < X)) = b9 := ⟨_, rfl⟩
        have HB9 := hid hb9
        clear hb9
        obtain ⟨i0, i1, g0, g1⟩ := HDS.out.ri
        go_cut [66] (fun s66 wx => s66 = .bool b9 ∧ wx = W3.setCell ⟨IN, 1, none⟩ (.bool b9))
        case first =>
          cases b2 with
          | true =>
            have hq : b9 = true := by rw [← HB9.out]; rfl
            subst hq
            go_wp2_with fail
            go_meet
            exact ⟨rfl, rfl⟩
          | false =>
            by_cases hx1 : X ≤ last
            · have hq : b9 = true := by rw [← HB9.out, decide_eq_true hx1]; rfl
              subst hq
              go_wp2_with fail
              go_meet
              exact ⟨rfl, rfl⟩
            · by_cases hx2 : 2 < X
              · have hq : b9 = true := by rw [← HB9.out, decide_eq_true hx2]; simp
                subst hq
                go_wp2_with fail
                go_meet
                exact ⟨rfl, rfl⟩
              · have hq : b9 = false := by rw [← HB9.out]; simp [hx1, hx2]
                subst hq
                go_wp2_with fail
                go_meet
                exact ⟨rfl, rfl⟩
        case rest =>
          obtain ⟨rfl, rfl⟩ := hcut
          obtain ⟨W4, hW4⟩ : ∃ W4, W4 = W3.setCell ⟨IN, 1, none⟩ (.bool b9) := ⟨_, rfl⟩
          have HD4 := hid (show DS w.heap.size IN w s2 b2 p b9 x W4 by rw [hW4]; exact HDS.out.rd (grown_setCell W3 IN 1 _) (HDS.out.ri.set1 b9))
          rw [← hW4]
          clear hW4 i0 i1 g0 g1 HDS
          obtain ⟨i0, i1, g0, g1⟩ := HD4.out.ri
          go_upto_block 2 with fail
          go_cut [70] (fun s70 wx => ∃ (s3 : ByteArray) (b3 : Bool) (x3 : dNs), s70 = .int .i64 X ∧ Hid (DS w.heap.size IN w s2 b2 s3 b3 x3 wx) ∧ Hid (b3 = true → b9 = true ∨ dBody X x.v (ns p) = none) ∧ Hid (b3 = false → b9 = false ∧ dBody X x.v (ns p) = some (x3.v, ns s3) ∧ (X < 2 → x3.ls = x.ls)))
          case first =>
            have HNM := hid (fun (W : World) (s1 : ByteArray) (b1 : Bool) (h1 : RdC IN s1 b1 W) (hs1 : s1.size ≤ 1000000000) => name2 IN s1 b1 W h1 hs1)
            have HLS := hid (fun (W : World) (s1 : ByteArray) (b1 : Bool) (h1 : RdC IN s1 b1 W) (hs1 : s1.size ≤ 1000000) => list2 IN s1 b1 W h1 hs1)
            rcases (show X = 0 ∨ X = 1 ∨ X = 2 ∨ 2 < X by omega) with hx | hx | hx | hx
            · subst hx
              go_upto_region 14 with (first | (go_at_call 20; go_loud ((with_reducible refine (HNM.out W4 p b9 HD4.out.ri (by omega)).mono ?_); rintro e w5 ⟨t, s5, b5, rfl, hC5, hz5, hR5, hN5⟩; have HD5 := hid (HD4.out.rd hR5 hC5); have HN5 := hid hN5; clear hC5 hN5; obtain ⟨v4, v5, hn5, h45, h55⟩ := HD5.out.dn; have HNC := hid hn5; have H45 := hid h45; have H55 := hid h55; clear h45 h55; obtain ⟨n0, n1, n2, n3, n4, n5, y0, y1, y2, y3, y4, y5⟩ := hn5)))
              go_meet
              have hSW := sw_txt (x := x) HN5.out
              have hq : ∀ k, w.heap.size + 1 + 1 < k ∧ k ≠ IN → k < w5.heap.size → ((w5.setCell ⟨w.heap.size + 1 + 1, 0, none⟩ (.bool true)).setCell ⟨w.heap.size + 1 + 1, 3, none⟩ (.string t)).heap[k]? = w5.heap[k]? := fun k hk _ => by
                have hne : k ≠ w.heap.size + 1 + 1 := by omega
                rw [heap_setCell_other _ _ _ _ hne, heap_setCell_other _ _ _ _ hne]
              exact ⟨s5, b5, ⟨true, x.hf, x.hl, t, x.fs, x.ls⟩, rfl, hid (HD5.out.nb ((grown_setCell w5 _ 0 _).trans (grown_setCell _ _ 3 _)) ⟨v4, v5, (HNC.out.set0 true).set3 t, Kd.R_step H45.out hq, Kd.R_step H55.out hq⟩), hid hSW.1, hid (fun h => ⟨(hSW.2 h).1, (hSW.2 h).2, fun _ => rfl⟩)⟩
            · subst hx
              go_upto_region 16 with (first | (go_at_call 21; go_loud ((with_reducible refine (HLS.out W4 p b9 HD4.out.ri (by omega)).mono ?_); rintro e w5 ⟨u, ys, s5, b5, rfl, hu, hC5, hz5, hR5, hN5⟩; have HD5 := hid (HD4.out.rd hR5 hC5); have HN5 := hid hN5; have HRU := hid hR5; clear hC5 hN5; obtain ⟨Au, cu, rfl⟩ := Kd.R_slice hu; have HU := hid hu; clear hu; obtain ⟨v4, v5, hn5, h45, h55⟩ := HD5.out.dn; have HNC := hid hn5; have H45 := hid h45; have H55 := hid h55; clear h45 h55; obtain ⟨n0, n1, n2, n3, n4, n5, y0, y1, y2, y3, y4, y5⟩ := hn5)))
              go_meet
              have hSW := sw_list (x := x) HN5.out
              have hI4 := HD4.out.ri.lt
              have hq : ∀ k, w.heap.size + 1 + 1 < k ∧ k ≠ IN → k < w5.heap.size → ((w5.setCell ⟨w.heap.size + 1 + 1, 1, none⟩ (.bool true)).setCell ⟨w.heap.size + 1 + 1, 4, none⟩ (.slice Au ys.length cu)).heap[k]? = w5.heap[k]? := fun k hk _ => by
                have hne : k ≠ w.heap.size + 1 + 1 := by omega
                rw [heap_setCell_other _ _ _ _ hne, heap_setCell_other _ _ _ _ hne]
              exact ⟨s5, b5, ⟨x.hm, true, x.hl, x.md, ys, x.ls⟩, rfl, hid (HD5.out.nb ((grown_setCell w5 _ 1 _).trans (grown_setCell _ _ 4 _)) ⟨_, v5, (HNC.out.set1 true).set4 _, Kd.R_step (Kd.R_mono (Kd.R_lower HU.out (by omega)) (fun k hk => by omega)) hq, Kd.R_step H55.out hq⟩), hid hSW.1, hid (fun h => ⟨(hSW.2 h).1, (hSW.2 h).2, fun _ => rfl⟩)⟩
            · subst hx
              obtain ⟨v4, v5, hn4, h44, h54⟩ := HD4.out.dn
              have HNC := hid hn4
              have H44 := hid h44
              have H54 := hid h54
              obtain ⟨n0, n1, n2, n3, n4, n5, y0, y1, y2, y3, y4, y5⟩ := hn4
              have HW5 := hid (show DS w.heap.size IN w s2 b2 p b9 ⟨x.hm, x.hf, true, x.md, x.fs, x.ls⟩ (W4.setCell ⟨w.heap.size + 1 + 1, 2, none⟩ (.bool true)) from HD4.out.nb (grown_setCell W4 _ 2 _) ⟨v4, v5, HNC.out.set2 true, Kd.R_step H44.out (fun k hk _ => heap_setCell_other _ _ _ _ (show k ≠ w.heap.size + 1 + 1 by omega)), Kd.R_step H54.out (fun k hk _ => heap_setCell_other _ _ _ _ (show k ≠ w.heap.size + 1 + 1 by omega))⟩)
              have HNU5 := hid (num2 IN p b9 _ HW5.out.ri (by omega))
              obtain ⟨ML, hML⟩ : ∃ ML, dList mkL (ns p) = ML := ⟨_, rfl⟩
              have HML := hid hML
              have HXL := hid (show b9 = false → x.ls = [] from fun h => (HD.out.yes rfl).1 (by
                have := HB9.out
                rw [h] at this
                simp at this
                omega))
              have hps : p.size ≤ 1000000 := by omega
              clear h44 h54 hML
              go_wp2_with (first | (go_at_call 19; go_loud ((with_reducible refine HNU5.out.mono ?_); rintro e w5 ⟨many, s5, b5, rfl, m0, m1, hC5, hz5, hR5, hN5⟩; have HD5 := hid (HW5.out.rd hR5 hC5); have HN5 := hid hN5; clear hC5 hR5 hN5)))
              have HSL := hid (show (b5 = true → b9 = true ∨ ML = none) ∧ (b5 = false → b9 = false ∧ ML = dItems mkL many.toNat 0 (ns s5)) by
                rcases HN5.out with ⟨rfl, q⟩ | ⟨rfl, rfl, q⟩
                · refine ⟨fun _ => ?_, fun h => (by cases h)⟩
                  cases b9
                  · have q : numL (ns p) = none := q
                    refine .inr ?_
                    rw [← HML.out]; unfold dList; rw [q]
                  · exact .inl rfl
                · refine ⟨fun h => (by cases h), fun _ => ⟨rfl, ?_⟩⟩
                  rw [← HML.out]; unfold dList; rw [q])
              clear HN5 HNU5 n0 n1 n2 n3 n4 n5 y0 y1 y2 y3 y4 y5 HNC H44 H54 HW5
              go_loopw [11] (fun v11 wq => ∃ (j : Nat) (zs : List S86) (s6 : ByteArray) (b6 : Bool), v11 = .int .u32 j ∧ (j : Int) ≤ many ∧ Hid (zs.length = j) ∧ s6.size ≤ p.size ∧ j ≤ p.size + 1 ∧ Hid (DS w.heap.size IN w s2 b2 s6 b6 ⟨x.hm, x.hf, true, x.md, x.fs, x.ls ++ zs⟩ wq) ∧ Hid (b6 = true → b9 = true ∨ ML = none) ∧ Hid (b6 = false → b9 = false ∧ j + s6.size ≤ p.size ∧ ML = aheadD (zs.map toL) (dItems mkL (many.toNat - j) (nxO (fun x : S90 => x.f0) (zs.map toL)) (ns s6)))) (fun v11 _ => many.toNat - (intOf v11).toNat)
              case atStart => exact ⟨0, [], s5, b5, by go_num, by omega, hid rfl, hz5, by omega, hid (by rw [List.append_nil]; exact HD5.out), hid HSL.out.1, hid (fun h => ⟨(HSL.out.2 h).1, by omega, by rw [(HSL.out.2 h).2]; exact (aheadD_nil _).symm⟩)⟩
              case round =>
                obtain ⟨j, zs, s6, b6, rfl, hjm, HZL, hz6, hj1, HD6, HNo6, HYes6⟩ := hrel
                obtain ⟨i0, i1, g0, g1⟩ := HD6.out.ri
                have hqq : (j : Int) < many ∨ ¬ (j : Int) < many := by omega
                cases b6 with
                | true =>
                  rcases hqq with hlt | hlt
                  all_goals
                    go_wp2_with fail
                    go_meet
                    exact ⟨s6, true, _, rfl, HD6, hid (fun _ => (HNo6.out (by trivial)).imp id (fun h => by unfold dBody; rw [if_neg (by decide), if_neg (by decide), HML.out, h])), hid (fun h => (by cases h))⟩
                | false =>
                  rcases hqq with hlt | hlt
                  · obtain ⟨h9, hjs, hMZ⟩ := HYes6.out (by trivial)
                    have hx0 := HXL.out h9
                    have HMZ := hid hMZ
                    have HD6' := hid (show DS w.heap.size IN w s2 b2 s6 false ⟨x.hm, x.hf, true, x.md, x.fs, zs⟩ wr by have := HD6.out; rw [hx0] at this; exact this)
                    have H9 := hid h9
                    have hx0 := hid hx0
                    clear hMZ HYes6 HNo6 HD6 h9
                    have HNX := hid (num2 IN s6 false wr HD6'.out.ri (by omega))
                    obtain ⟨m', hm'⟩ : ∃ m' : Nat, many.toNat - j = m' + 1 := ⟨many.toNat - j - 1, by omega⟩
                    go_upto_region 23 with (first | (go_at_call 19; go_loud ((with_reducible refine HNX.out.mono ?_); rintro e w6 ⟨ix, s7, b7, rfl, x0, x1, hC6, hz7, hR6, hN6⟩; have HDW := hid (HD6'.out.rd hR6 hC6); have HN6 := hid hN6; clear hC6 hR6 hN6)))
                    obtain ⟨W7, hW7⟩ : ∃ W7, W7 = w6.alloc (.cells #[.int .u32 ix, .slice none 0 0] 86) := ⟨_, rfl⟩
                    obtain ⟨XB, hXB⟩ : ∃ XB, w6.heap.size = XB := ⟨_, rfl⟩
                    have HB7 := hid (show Below w6.heap.size w6 W7 by rw [hW7]; exact bel)
                    have HX7 := hid (show W7.cell? ⟨XB, 0, none⟩ = some (.int .u32 ix) ∧ W7.cell? ⟨XB, 1, none⟩ = some (.slice none 0 0) ∧ XB < W7.heap.size ∧ W7.frozen? ⟨XB, 1, none⟩ = false by rw [hW7, ← hXB]; exact ⟨by go_simp, by go_simp, by simp, by go_simp⟩)
                    have hIX : IN < XB := by have := HDW.out.ri.lt; omega
                    have HLS7 := hid (list2 IN s7 b7 W7 (HDW.out.ri.below HB7.out) (by omega))
                    rw [hXB, ← hW7]
                    clear hW7 i0 i1 g0 g1
                    go_upto_region 24 with (first | (go_at_call 21; go_loud ((with_reducible refine HLS7.out.mono ?_); rintro e w7 ⟨u, ys, s8, b8, rfl, hu, hC7, hz8, hR7, hN7⟩; obtain ⟨Au, cu, rfl⟩ := Kd.R_slice hu; have HU := hid hu; have HC7 := hid hC7; have HR7 := hid hR7; have HN7 := hid hN7; clear hC7 hN7 hu; have X0 := hR7.cell (show XB ≠ IN by omega) HX7.out.1; have X1 := hR7.cell (show XB ≠ IN by omega) HX7.out.2.1; have XF := rd_frozen hR7 (show XB ≠ IN by omega) HX7.out.2.2.1 HX7.out.2.2.2)))
                    obtain ⟨W8, hW8⟩ : ∃ W8, W8 = w7.setCell ⟨XB, 1, none⟩ (.slice Au ys.length cu) := ⟨_, rfl⟩
                    have HX8 := hid (show W8.cell? ⟨XB, 0, none⟩ = some (.int .u32 ix) ∧ W8.cell? ⟨XB, 1, none⟩ = some (.slice Au ys.length cu) by rw [hW8]; exact ⟨by go_simp, by go_simp⟩)
                    have HR8 := hid (show Rd IN w6 W8 from rd_base ((Rd.of_below HB7.out).trans HR7.out) (by rw [hW8]; exact (Below.refl _ _).setCell (p := ⟨XB, 1, none⟩) (by show w6.heap.size ≤ XB; omega) _))
                    have HC8 := hid (HC7.out.blk (show W8.heap[IN]? = w7.heap[IN]? by rw [hW8, heap_setCell_other _ _ _ _ (by show IN ≠ XB; omega)]))
                    have HD8 := hid (HDW.out.rd HR8.out HC8.out)
                    have hw7s := HB7.out.size
                    have HU8 := hid (show k182.R 182 W8 w.heap.size (fun k => W7.heap.size ≤ k) (.slice Au ys.length cu) ys from Kd.R_lower (Kd.R_step HU.out (fun k hk _ => by rw [hW8, heap_setCell_other _ _ _ _ (by show k ≠ XB; have := HX7.out.2.2.1; omega)])) (by have := HDW.out.be.size; omega))
                    have hz78 : W7.heap.size ≤ W8.heap.size := by rw [hW8]; simpa using HR7.out.size
                    have HST := hid (dl_step (s := s6) (s1 := s7) (s2 := s8) (ix := ix) (ys := ys) (b1 := b7) (b2 := b8) (by simpa using HN6.out) HN7.out)
                    rw [← hW8]
                    clear hW8 X0 X1 XF HN6 HN7 HC7 HR7 HLS7 HNX HX7 HU HD6'
                    obtain ⟨bq, hbq⟩ : ∃ bq : Bool, (b8 || decide (ix < nxO (fun x : S90 => x.f0) (zs.map toL))) = bq := ⟨_, rfl⟩
                    have HBQ := hid hbq
                    obtain ⟨v4, v5, hn8, h48, h58⟩ := (HDW.out.dn.bound.step (HR8.out.block _ HDW.out.dn.lt (fun e => by have := Option.some.inj e; omega)) (fun k hk hl => HR8.out.block k hl (fun e => by have := Option.some.inj e; omega)) : DN (w.heap.size + 1 + 1) w.heap.size (fun k => (w.heap.size + 1 + 1 < k ∧ k ≠ IN) ∧ k < w6.heap.size) ⟨x.hm, x.hf, true, x.md, x.fs, zs⟩ W8)
                    obtain ⟨A5, c5, rfl⟩ := Kd.R_slice h58
                    have HNC8 := hid hn8
                    have H48 := hid h48
                    have H58 := hid h58
                    clear h48 h58
                    obtain ⟨n0, n1, n2, n3, n4, n5, y0, y1, y2, y3, y4, y5⟩ := hn8
                    have n5 : W8.cell? ⟨w.heap.size + 1 + 1, 5, none⟩ = some (.slice A5 zs.length c5) := n5
                    go_cut [126] (fun s126 wx => s126 = .bool bq ∧ Hid (RdC IN s8 bq wx) ∧ Hid (Rd IN W8 wx))
                    case first =>
                      obtain ⟨e0, -⟩ := HX8.out
                      obtain ⟨c0, c1, f0, f1⟩ := HC8.out
                      clear n0 n1 n2 n3 n4 y0 y1 y2 y3 y4 y5
                      cases b8 with
                      | true =>
                        have hq : bq = true := by rw [← hbq]; rfl
                        subst hq
                        clear hbq
                        refine wp_region_noPanic ?_
                        refine wp_region_heldD 23 (S := (fun W => W.cell? ⟨IN, 1, none⟩ = some (.bool true) ∧ W.frozen? ⟨IN, 1, none⟩ = false)) (by kernel_rfl) ?hSa1 (fun hHeld => ?goa1)
                        case hSa1 => exact ⟨c1, f1⟩
                        refine tkD 0 ⟨some 106, .move (.tmp 9), 78, "ref.go:184", #[], none⟩ rfl ?_
                        refine tkD 1 ⟨some 107, .move (.tmp 9), 78, "ref.go:184", #[], none⟩ rfl ?_
                        refine tkD 2 ⟨some 108, .nilCheck (.tmp 107), 0, "ref.go:184", #[⟨1, .data⟩], none⟩ rfl ?_
                        refine tkD 3 ⟨some 109, .fieldAddr 80 (.tmp 108) 1, 0, "ref.go:184", #[⟨2, .data⟩], none⟩ rfl ?_
                        refine tkD 4 ⟨some 110, .load 4 (.tmp 109), 4, "ref.go:184", #[⟨3, .data⟩], none⟩ rfl ?_
                        refine tkD 5 ⟨some 111, .move (.tmp 110), 4, "ref.go:184", #[⟨4, .data⟩], none⟩ rfl ?_
                        refine tkDn 6 ⟨some 112, .move (.tmp 11), 47, "ref.go:184", #[⟨5, .guard⟩], some (5, false)⟩ rfl ?_
                        refine tkDn 7 ⟨some 113, .binOp .gtr 47 (.tmp 112) (.const (.int .u32 0)) 47, 4, "ref.go:184", #[⟨6, .data⟩, ⟨5, .guard⟩], some (5, false)⟩ rfl ?_
                        refine tkDn 8 ⟨some 114, .move (.tmp 113), 4, "ref.go:184", #[⟨7, .data⟩, ⟨5, .chain⟩, ⟨5, .guard⟩], some (5, false)⟩ rfl ?_
                        refine tkDn 9 ⟨some 115, .fieldAddr 86 (.tmp 12) 0, 0, "ref.go:184", #[⟨8, .guard⟩], some (8, true)⟩ rfl ?_
                        refine tkDn 10 ⟨some 116, .load 47 (.tmp 115), 47, "ref.go:184", #[⟨9, .data⟩, ⟨8, .guard⟩], some (8, true)⟩ rfl ?_
                        refine tkDn 11 ⟨some 117, .fieldAddr 32 (.tmp 5) 5, 0, "ref.go:184", #[⟨8, .guard⟩], some (8, true)⟩ rfl ?_
                        refine tkDn 12 ⟨some 118, .load 30 (.tmp 117), 30, "ref.go:184", #[⟨11, .data⟩, ⟨8, .guard⟩], some (8, true)⟩ rfl ?_
                        refine tkDn 13 ⟨some 119, .move (.tmp 11), 47, "ref.go:184", #[⟨8, .guard⟩], some (8, true)⟩ rfl ?_
                        refine tkDn 14 ⟨some 120, .binOp .sub 47 (.tmp 119) (.const (.int .u32 1)) 47, 47, "ref.go:184", #[⟨13, .data⟩, ⟨8, .guard⟩], some (8, true)⟩ rfl ?_
                        refine tkDn 15 ⟨some 121, .indexAddr 30 (.tmp 118) (.tmp 120), 0, "ref.go:184", #[⟨12, .data⟩, ⟨14, .data⟩, ⟨8, .guard⟩], some (8, true)⟩ rfl ?_
                        refine tkDn 16 ⟨some 122, .fieldAddr 86 (.tmp 121) 0, 0, "ref.go:184", #[⟨15, .data⟩, ⟨8, .guard⟩], some (8, true)⟩ rfl ?_
                        refine tkDn 17 ⟨some 123, .load 47 (.tmp 122), 47, "ref.go:184", #[⟨16, .data⟩, ⟨8, .guard⟩], some (8, true)⟩ rfl ?_
                        refine tkDn 18 ⟨some 124, .binOp .leq 47 (.tmp 116) (.tmp 123) 47, 4, "ref.go:184", #[⟨10, .data⟩, ⟨17, .data⟩, ⟨8, .guard⟩], some (8, true)⟩ rfl ?_
                        refine tkDn 19 ⟨some 125, .pick (.tmp 114) (.tmp 124) (.const (.bool false)), 4, "ref.go:184", #[⟨8, .data⟩, ⟨18, .data⟩, ⟨5, .guard⟩], some (5, false)⟩ rfl ?_
                        refine tkD 20 ⟨some 126, .pick (.tmp 111) (.const (.bool true)) (.tmp 125), 4, "ref.go:184", #[⟨5, .data⟩, ⟨19, .data⟩], none⟩ rfl ?_
                        refine tkD 21 ⟨some 127, .nilCheck (.tmp 106), 0, "ref.go:184", #[⟨0, .data⟩, ⟨0, .phase⟩, ⟨1, .phase⟩, ⟨2, .phase⟩, ⟨3, .phase⟩, ⟨4, .phase⟩, ⟨5, .phase⟩, ⟨6, .phase⟩, ⟨7, .phase⟩, ⟨8, .phase⟩, ⟨9, .phase⟩, ⟨10, .phase⟩, ⟨11, .phase⟩, ⟨12, .phase⟩, ⟨13, .phase⟩, ⟨14, .phase⟩, ⟨15, .phase⟩, ⟨16, .phase⟩, ⟨17, .phase⟩, ⟨18, .phase⟩, ⟨19, .phase⟩, ⟨20, .phase⟩], none⟩ rfl ?_
                        refine tkD 22 ⟨some 128, .fieldAddr 80 (.tmp 127) 1, 0, "ref.go:184", #[⟨21, .data⟩, ⟨0, .phase⟩, ⟨1, .phase⟩, ⟨2, .phase⟩, ⟨3, .phase⟩, ⟨4, .phase⟩, ⟨5, .phase⟩, ⟨6, .phase⟩, ⟨7, .phase⟩, ⟨8, .phase⟩, ⟨9, .phase⟩, ⟨10, .phase⟩, ⟨11, .phase⟩, ⟨12, .phase⟩, ⟨13, .phase⟩, ⟨14, .phase⟩, ⟨15, .phase⟩, ⟨16, .phase⟩, ⟨17, .phase⟩, ⟨18, .phase⟩, ⟨19, .phase⟩, ⟨20, .phase⟩], none⟩ rfl ?_
                        refine wpAnyD_ready (rs := [23]) (by kernel_rfl) (by simp) ?_
                        refine AllReadyD.last (o := ⟨none, .store 4 (.tmp 128) (.tmp 126), 0, "ref.go:184", #[⟨22, .data⟩, ⟨20, .data⟩, ⟨8, .chain⟩, ⟨0, .phase⟩, ⟨1, .phase⟩, ⟨2, .phase⟩, ⟨3, .phase⟩, ⟨4, .phase⟩, ⟨5, .phase⟩, ⟨6, .phase⟩, ⟨7, .phase⟩, ⟨8, .phase⟩, ⟨9, .phase⟩, ⟨10, .phase⟩, ⟨11, .phase⟩, ⟨12, .phase⟩, ⟨13, .phase⟩, ⟨14, .phase⟩, ⟨15, .phase⟩, ⟨16, .phase⟩, ⟨17, .phase⟩, ⟨18, .phase⟩, ⟨19, .phase⟩, ⟨20, .phase⟩], none⟩) rfl (by kernel_rfl) (fun K hK => ?_)
                        go_simp
                        refine hK.out _ _ ?_
                        clear hK K
                        try simp only [Act.put, List.setIfInBounds_toArray, List.set_cons_zero, List.set_cons_succ]
                        refine NoPanic.normal ?_
                        go_wp2_with fail
                        go_meet
                        exact ⟨rfl, hid ((HC8.out.below (Below.drew (Below.refl _ _))).set1 _), hid ((Rd.of_below (Below.drew (Below.refl _ _))).trans (grown_setCell _ IN 1 _))⟩
                      | false =>
                        rcases j with _ | m
                        · have hy0 : zs = [] := List.length_eq_zero_iff.1 HZL.out
                          have hq : bq = false := by rw [← hbq, hy0]; simp [nxO]; omega
                          subst hq
                          clear hbq hy0
                          refine wp_region_noPanic ?_
                          refine wp_region_heldD 23 (S := (fun W => W.cell? ⟨IN, 1, none⟩ = some (.bool false) ∧ W.frozen? ⟨IN, 1, none⟩ = false)) (by kernel_rfl) ?hSb1 (fun hHeld => ?gob1)
                          case hSb1 => exact ⟨c1, f1⟩
                          refine tkD 0 ⟨some 106, .move (.tmp 9), 78, "ref.go:184", #[], none⟩ rfl ?_
                          refine tkD 1 ⟨some 107, .move (.tmp 9), 78, "ref.go:184", #[], none⟩ rfl ?_
                          refine tkD 2 ⟨some 108, .nilCheck (.tmp 107), 0, "ref.go:184", #[⟨1, .data⟩], none⟩ rfl ?_
                          refine tkD 3 ⟨some 109, .fieldAddr 80 (.tmp 108) 1, 0, "ref.go:184", #[⟨2, .data⟩], none⟩ rfl ?_
                          refine tkD 4 ⟨some 110, .load 4 (.tmp 109), 4, "ref.go:184", #[⟨3, .data⟩], none⟩ rfl ?_
                          refine tkD 5 ⟨some 111, .move (.tmp 110), 4, "ref.go:184", #[⟨4, .data⟩], none⟩ rfl ?_
                          refine tkD 6 ⟨some 112, .move (.tmp 11), 47, "ref.go:184", #[⟨5, .guard⟩], some (5, false)⟩ rfl ?_
                          refine tkD 7 ⟨some 113, .binOp .gtr 47 (.tmp 112) (.const (.int .u32 0)) 47, 4, "ref.go:184", #[⟨6, .data⟩, ⟨5, .guard⟩], some (5, false)⟩ rfl ?_
                          refine tkD 8 ⟨some 114, .move (.tmp 113), 4, "ref.go:184", #[⟨7, .data⟩, ⟨5, .chain⟩, ⟨5, .guard⟩], some (5, false)⟩ rfl ?_
                          refine tkDn 9 ⟨some 115, .fieldAddr 86 (.tmp 12) 0, 0, "ref.go:184", #[⟨8, .guard⟩], some (8, true)⟩ rfl ?_
                          refine tkDn 10 ⟨some 116, .load 47 (.tmp 115), 47, "ref.go:184", #[⟨9, .data⟩, ⟨8, .guard⟩], some (8, true)⟩ rfl ?_
                          refine tkDn 11 ⟨some 117, .fieldAddr 32 (.tmp 5) 5, 0, "ref.go:184", #[⟨8, .guard⟩], some (8, true)⟩ rfl ?_
                          refine tkDn 12 ⟨some 118, .load 30 (.tmp 117), 30, "ref.go:184", #[⟨11, .data⟩, ⟨8, .guard⟩], some (8, true)⟩ rfl ?_
                          refine tkDn 13 ⟨some 119, .move (.tmp 11), 47, "ref.go:184", #[⟨8, .guard⟩], some (8, true)⟩ rfl ?_
                          refine tkDn 14 ⟨some 120, .binOp .sub 47 (.tmp 119) (.const (.int .u32 1)) 47, 47, "ref.go:184", #[⟨13, .data⟩, ⟨8, .guard⟩], some (8, true)⟩ rfl ?_
                          refine tkDn 15 ⟨some 121, .indexAddr 30 (.tmp 118) (.tmp 120), 0, "ref.go:184", #[⟨12, .data⟩, ⟨14, .data⟩, ⟨8, .guard⟩], some (8, true)⟩ rfl ?_
                          refine tkDn 16 ⟨some 122, .fieldAddr 86 (.tmp 121) 0, 0, "ref.go:184", #[⟨15, .data⟩, ⟨8, .guard⟩], some (8, true)⟩ rfl ?_
                          refine tkDn 17 ⟨some 123, .load 47 (.tmp 122), 47, "ref.go:184", #[⟨16, .data⟩, ⟨8, .guard⟩], some (8, true)⟩ rfl ?_
                          refine tkDn 18 ⟨some 124, .binOp .leq 47 (.tmp 116) (.tmp 123) 47, 4, "ref.go:184", #[⟨10, .data⟩, ⟨17, .data⟩, ⟨8, .guard⟩], some (8, true)⟩ rfl ?_
                          refine tkD 19 ⟨some 125, .pick (.tmp 114) (.tmp 124) (.const (.bool false)), 4, "ref.go:184", #[⟨8, .data⟩, ⟨18, .data⟩, ⟨5, .guard⟩], some (5, false)⟩ rfl ?_
                          refine tkD 20 ⟨some 126, .pick (.tmp 111) (.const (.bool true)) (.tmp 125), 4, "ref.go:184", #[⟨5, .data⟩, ⟨19, .data⟩], none⟩ rfl ?_
                          refine tkD 21 ⟨some 127, .nilCheck (.tmp 106), 0, "ref.go:184", #[⟨0, .data⟩, ⟨0, .phase⟩, ⟨1, .phase⟩, ⟨2, .phase⟩, ⟨3, .phase⟩, ⟨4, .phase⟩, ⟨5, .phase⟩, ⟨6, .phase⟩, ⟨7, .phase⟩, ⟨8, .phase⟩, ⟨9, .phase⟩, ⟨10, .phase⟩, ⟨11, .phase⟩, ⟨12, .phase⟩, ⟨13, .phase⟩, ⟨14, .phase⟩, ⟨15, .phase⟩, ⟨16, .phase⟩, ⟨17, .phase⟩, ⟨18, .phase⟩, ⟨19, .phase⟩, ⟨20, .phase⟩], none⟩ rfl ?_
                          refine tkD 22 ⟨some 128, .fieldAddr 80 (.tmp 127) 1, 0, "ref.go:184", #[⟨21, .data⟩, ⟨0, .phase⟩, ⟨1, .phase⟩, ⟨2, .phase⟩, ⟨3, .phase⟩, ⟨4, .phase⟩, ⟨5, .phase⟩, ⟨6, .phase⟩, ⟨7, .phase⟩, ⟨8, .phase⟩, ⟨9, .phase⟩, ⟨10, .phase⟩, ⟨11, .phase⟩, ⟨12, .phase⟩, ⟨13, .phase⟩, ⟨14, .phase⟩, ⟨15, .phase⟩, ⟨16, .phase⟩, ⟨17, .phase⟩, ⟨18, .phase⟩, ⟨19, .phase⟩, ⟨20, .phase⟩], none⟩ rfl ?_
                          refine wpAnyD_ready (rs := [23]) (by kernel_rfl) (by simp) ?_
                          refine AllReadyD.last (o := ⟨none, .store 4 (.tmp 128) (.tmp 126), 0, "ref.go:184", #[⟨22, .data⟩, ⟨20, .data⟩, ⟨8, .chain⟩, ⟨0, .phase⟩, ⟨1, .phase⟩, ⟨2, .phase⟩, ⟨3, .phase⟩, ⟨4, .phase⟩, ⟨5, .phase⟩, ⟨6, .phase⟩, ⟨7, .phase⟩, ⟨8, .phase⟩, ⟨9, .phase⟩, ⟨10, .phase⟩, ⟨11, .phase⟩, ⟨12, .phase⟩, ⟨13, .phase⟩, ⟨14, .phase⟩, ⟨15, .phase⟩, ⟨16, .phase⟩, ⟨17, .phase⟩, ⟨18, .phase⟩, ⟨19, .phase⟩, ⟨20, .phase⟩], none⟩) rfl (by kernel_rfl) (fun K hK => ?_)
                          go_simp
                          refine hK.out _ _ ?_
                          clear hK K
                          try simp only [Act.put, List.setIfInBounds_toArray, List.set_cons_zero, List.set_cons_succ]
                          refine NoPanic.normal ?_
                          go_wp2_with fail
                          go_meet
                          exact ⟨rfl, hid ((HC8.out.below (Below.drew (Below.refl _ _))).set1 _), hid ((Rd.of_below (Below.drew (Below.refl _ _))).trans (grown_setCell _ IN 1 _))⟩
                        · obtain ⟨Ar, cr, er, lr, CR⟩ := Kd.R_reads H58.out
                          cases er
                          have hyl2 := HZL.out
                          obtain ⟨ad, A0, c0', rfl, e1, -⟩ := at_T86 CR (m : Int) (by omega) (by simp; omega)
                          rw [Int.toNat_natCast] at e1
                          have hql : (ix < nxO (fun x : S90 => x.f0) (zs.map toL)) = (ix ≤ (rd_T86 zs m).f0) := by rw [nxL_last zs m hyl2]; exact propext (by omega)
                          have hq : bq = decide (ix ≤ (rd_T86 zs m).f0) := by rw [← hbq]; simp only [hql, Bool.false_or]
                          obtain ⟨lst, hls⟩ : ∃ q, (rd_T86 zs m).f0 = q := ⟨_, rfl⟩
                          rw [hls] at e1 hq
                          subst hq
                          have hwm : IntKind.u32.wrap (m : Int) = m := by simp [IntKind.wrap, IntKind.bits, IntKind.signed]; omega
                          have hml : (m : Int) < (zs.length : Int) := by omega
                          clear hbq hql hls HZL hyl2
                          refine wp_region_noPanic ?_
                          refine wp_region_heldD 23 (S := (fun W => W.cell? ⟨IN, 1, none⟩ = some (.bool false) ∧ W.frozen? ⟨IN, 1, none⟩ = false ∧ W.cell? ⟨XB, 0, none⟩ = some (.int .u32 ix) ∧ W.cell? ⟨w.heap.size + 1 + 1, 5, none⟩ = some (.slice (some ad) zs.length c5) ∧ W.cell? (ad.add (m * 2)) = some (.int .u32 lst))) (by kernel_rfl) ?hSc1 (fun hHeld => ?goc1)
                          case hSc1 => exact ⟨c1, f1, e0, n5, e1⟩
                          refine tkD 0 ⟨some 106, .move (.tmp 9), 78, "ref.go:184", #[], none⟩ rfl ?_
                          refine tkD 1 ⟨some 107, .move (.tmp 9), 78, "ref.go:184", #[], none⟩ rfl ?_
                          refine tkD 2 ⟨some 108, .nilCheck (.tmp 107), 0, "ref.go:184", #[⟨1, .data⟩], none⟩ rfl ?_
                          refine tkD 3 ⟨some 109, .fieldAddr 80 (.tmp 108) 1, 0, "ref.go:184", #[⟨2, .data⟩], none⟩ rfl ?_
                          refine tkD 4 ⟨some 110, .load 4 (.tmp 109), 4, "ref.go:184", #[⟨3, .data⟩], none⟩ rfl ?_
                          refine tkD 5 ⟨some 111, .move (.tmp 110), 4, "ref.go:184", #[⟨4, .data⟩], none⟩ rfl ?_
                          refine tkD 6 ⟨some 112, .move (.tmp 11), 47, "ref.go:184", #[⟨5, .guard⟩], some (5, false)⟩ rfl ?_
                          refine tkD 7 ⟨some 113, .binOp .gtr 47 (.tmp 112) (.const (.int .u32 0)) 47, 4, "ref.go:184", #[⟨6, .data⟩, ⟨5, .guard⟩], some (5, false)⟩ rfl ?_
                          refine tkD 8 ⟨some 114, .move (.tmp 113), 4, "ref.go:184", #[⟨7, .data⟩, ⟨5, .chain⟩, ⟨5, .guard⟩], some (5, false)⟩ rfl ?_
                          refine tkD 9 ⟨some 115, .fieldAddr 86 (.tmp 12) 0, 0, "ref.go:184", #[⟨8, .guard⟩], some (8, true)⟩ rfl ?_
                          refine tkD 10 ⟨some 116, .load 47 (.tmp 115), 47, "ref.go:184", #[⟨9, .data⟩, ⟨8, .guard⟩], some (8, true)⟩ rfl ?_
                          refine tkD 11 ⟨some 117, .fieldAddr 32 (.tmp 5) 5, 0, "ref.go:184", #[⟨8, .guard⟩], some (8, true)⟩ rfl ?_
                          refine tkD 12 ⟨some 118, .load 30 (.tmp 117), 30, "ref.go:184", #[⟨11, .data⟩, ⟨8, .guard⟩], some (8, true)⟩ rfl ?_
                          refine tkD 13 ⟨some 119, .move (.tmp 11), 47, "ref.go:184", #[⟨8, .guard⟩], some (8, true)⟩ rfl ?_
                          refine tkD 14 ⟨some 120, .binOp .sub 47 (.tmp 119) (.const (.int .u32 1)) 47, 47, "ref.go:184", #[⟨13, .data⟩, ⟨8, .guard⟩], some (8, true)⟩ rfl ?_
                          refine tkD 15 ⟨some 121, .indexAddr 30 (.tmp 118) (.tmp 120), 0, "ref.go:184", #[⟨12, .data⟩, ⟨14, .data⟩, ⟨8, .guard⟩], some (8, true)⟩ rfl ?_
                          refine tkD 16 ⟨some 122, .fieldAddr 86 (.tmp 121) 0, 0, "ref.go:184", #[⟨15, .data⟩, ⟨8, .guard⟩], some (8, true)⟩ rfl ?_
                          refine tkD 17 ⟨some 123, .load 47 (.tmp 122), 47, "ref.go:184", #[⟨16, .data⟩, ⟨8, .guard⟩], some (8, true)⟩ rfl ?_
                          refine tkD 18 ⟨some 124, .binOp .leq 47 (.tmp 116) (.tmp 123) 47, 4, "ref.go:184", #[⟨10, .data⟩, ⟨17, .data⟩, ⟨8, .guard⟩], some (8, true)⟩ rfl ?_
                          refine tkD 19 ⟨some 125, .pick (.tmp 114) (.tmp 124) (.const (.bool false)), 4, "ref.go:184", #[⟨8, .data⟩, ⟨18, .data⟩, ⟨5, .guard⟩], some (5, false)⟩ rfl ?_
                          refine tkD 20 ⟨some 126, .pick (.tmp 111) (.const (.bool true)) (.tmp 125), 4, "ref.go:184", #[⟨5, .data⟩, ⟨19, .data⟩], none⟩ rfl ?_
                          refine tkD 21 ⟨some 127, .nilCheck (.tmp 106), 0, "ref.go:184", #[⟨0, .data⟩, ⟨0, .phase⟩, ⟨1, .phase⟩, ⟨2, .phase⟩, ⟨3, .phase⟩, ⟨4, .phase⟩, ⟨5, .phase⟩, ⟨6, .phase⟩, ⟨7, .phase⟩, ⟨8, .phase⟩, ⟨9, .phase⟩, ⟨10, .phase⟩, ⟨11, .phase⟩, ⟨12, .phase⟩, ⟨13, .phase⟩, ⟨14, .phase⟩, ⟨15, .phase⟩, ⟨16, .phase⟩, ⟨17, .phase⟩, ⟨18, .phase⟩, ⟨19, .phase⟩, ⟨20, .phase⟩], none⟩ rfl ?_
                          refine tkD 22 ⟨some 128, .fieldAddr 80 (.tmp 127) 1, 0, "ref.go:184", #[⟨21, .data⟩, ⟨0, .phase⟩, ⟨1, .phase⟩, ⟨2, .phase⟩, ⟨3, .phase⟩, ⟨4, .phase⟩, ⟨5, .phase⟩, ⟨6, .phase⟩, ⟨7, .phase⟩, ⟨8, .phase⟩, ⟨9, .phase⟩, ⟨10, .phase⟩, ⟨11, .phase⟩, ⟨12, .phase⟩, ⟨13, .phase⟩, ⟨14, .phase⟩, ⟨15, .phase⟩, ⟨16, .phase⟩, ⟨17, .phase⟩, ⟨18, .phase⟩, ⟨19, .phase⟩, ⟨20, .phase⟩], none⟩ rfl ?_
                          refine wpAnyD_ready (rs := [23]) (by kernel_rfl) (by simp) ?_
                          refine AllReadyD.last (o := ⟨none, .store 4 (.tmp 128) (.tmp 126), 0, "ref.go:184", #[⟨22, .data⟩, ⟨20, .data⟩, ⟨8, .chain⟩, ⟨0, .phase⟩, ⟨1, .phase⟩, ⟨2, .phase⟩, ⟨3, .phase⟩, ⟨4, .phase⟩, ⟨5, .phase⟩, ⟨6, .phase⟩, ⟨7, .phase⟩, ⟨8, .phase⟩, ⟨9, .phase⟩, ⟨10, .phase⟩, ⟨11, .phase⟩, ⟨12, .phase⟩, ⟨13, .phase⟩, ⟨14, .phase⟩, ⟨15, .phase⟩, ⟨16, .phase⟩, ⟨17, .phase⟩, ⟨18, .phase⟩, ⟨19, .phase⟩, ⟨20, .phase⟩], none⟩) rfl (by kernel_rfl) (fun K hK => ?_)
                          go_simp
                          refine hK.out _ _ ?_
                          clear hK K
                          try simp only [Act.put, List.setIfInBounds_toArray, List.set_cons_zero, List.set_cons_succ]
                          refine NoPanic.normal ?_
                          go_wp2_with fail
                          go_meet
                          exact ⟨rfl, hid ((HC8.out.below (Below.drew (Below.refl _ _))).set1 _), hid ((Rd.of_below (Below.drew (Below.refl _ _))).trans (grown_setCell _ IN 1 _))⟩
                    case rest =>
                      obtain ⟨rfl, HC9, HR9⟩ := hcut
                      have HD9 := hid (HD8.out.rd HR9.out HC9.out)
                      have hNI : w.heap.size + 1 + 1 ≠ IN := by omega
                      have q5 := HR9.out.cell hNI n5
                      have e0 := HR9.out.cell (show XB ≠ IN by omega) HX8.out.1
                      have e1 := HR9.out.cell (show XB ≠ IN by omega) HX8.out.2
                      have hq8 : ∀ k, (w.heap.size + 1 + 1 < k ∧ k ≠ IN) ∧ k < w6.heap.size → k < W8.heap.size → wc.heap[k]? = W8.heap[k]? := fun k hk hl => HR9.out.block k hl (fun e => by have := Option.some.inj e; omega)
                      have HOB := hid (Kd.R_bound H58.out).1
                      have hne : ∀ q, q ≤ w.heap.size + 1 + 1 ∨ q = IN → some q ≠ (Value.slice A5 zs.length c5).ownBlock := fun q hq e => by have := (HOB.out q e.symm).1.1; omega
                      have HO9 := hid (Kd.R_mono (ok' := fun k => w.heap.size + 1 + 1 < k ∧ k ≠ IN) (Kd.R_step H58.out hq8) (fun k hk => hk.1))
                      have hty : ∀ q, q ∈ 182 :: k182.E → 86 ≠ q := by decide
                      have H49 := hid (Kd.R_mono (ok' := fun k => (w.heap.size + 1 + 1 < k ∧ k ≠ IN) ∧ some k ≠ (Value.slice A5 zs.length c5).ownBlock) (Kd.R_bound (Kd.R_step H48.out hq8)) (fun k hk => ⟨hk.1.1, by
                        obtain ⟨-, -, -, q, hq, cells, hc⟩ := hk
                        exact Kd.R_ne HO9.out hc (hty q hq)⟩))
                      have HU9 := hid (Kd.R_step HU8.out (fun k hk hl => HR9.out.block k hl (fun e => by have := Option.some.inj e; have := HDW.out.ri.lt; omega)))
                      have HNC9 := hid (HNC8.out.blk (HR9.out.block _ HNC8.out.lt (fun e => hNI (Option.some.inj e))))
                      have hwz : w.heap.size ≤ wc.heap.size := HD9.out.be.size
                      have hWI : IN < W7.heap.size := by have := HDW.out.ri.lt; omega
                      have hcs : W7.heap.size ≤ wc.heap.size := Nat.le_trans hz78 HR9.out.size
                      have hNl : w.heap.size + 1 + 1 < wc.heap.size := by omega
                      have hyl2 := HZL.out
                      have HY2 := hid hyl2
                      have HJ4 := hid (show (zs.length + 1) * 32 ≤ 140737488355328 by omega)
                      have q5f := rd_frozen HR9.out hNI HNC8.out.lt y5
                      have hjn' : ((j + 1 : Nat) : Int) ≤ many := by omega
                      have hwj : IntKind.u32.wrap ((j : Int) + 1) = ((j + 1 : Nat) : Int) := by simp [IntKind.wrap, IntKind.bits, IntKind.signed]; omega
                      clear hbq hyl2 HZL n0 n1 n2 n3 n4 n5 y0 y1 y2 y3 y4 y5
                      go_wp2_with (first | (at_builtin; go_loud (refine Kd.R_append k86 (w0 := wc) w.heap.size rfl _ _ 30 86 (.agg #[.int .u32 0, .slice none 0 0]) 32 rfl Tryz.underlying30 info_rLocal rfl (by decide) (by decide) (.slice A5 zs.length c5) zs (⟨ix, ys⟩ : S86) [.int .u32 ix, .slice Au ys.length cu] (fun k => w.heap.size + 1 + 1 < k ∧ k ≠ IN) (fun k => W7.heap.size ≤ k) rfl rfl (k86_mkM _ _ _ (⟨ix, ys⟩ : S86) HU9.out) (fun k hk => ⟨by omega, fun e => by have := (HOB.out k e.symm).1.2; have := HB7.out.size; omega⟩) (fun k hk => by omega) HO9.out (Below.refl _ _) (by omega) HJ4.out ?_)))
                      intro v1 w12 hR1 hB12 hG12 hat12
                      obtain ⟨A1, c1, rfl⟩ := Kd.R_slice hR1
                      rw [show (zs ++ [(⟨ix, ys⟩ : S86)]).length = zs.length + 1 by simp] at hR1
                      have HR1 := hid hR1
                      have e12 : ∀ k, k < wc.heap.size → some k ≠ (Value.slice A5 zs.length c5).ownBlock → w12.heap[k]? = wc.heap[k]? := fun k hk ho => hG12.block k hk ho
                      have hz12 := hG12.size
                      have HNC12 := hid (HNC9.out.blk (e12 _ hNl (hne _ (.inl (Nat.le_refl _)))))
                      have n5 := HNC12.out.c5
                      have y5 := HNC12.out.z5
                      clear q5 q5f e0 e1 hR1 hat12
                      go_wp2
                      obtain ⟨W13, hW13⟩ : ∃ W13, W13 = w12.setCell ⟨w.heap.size + 1 + 1, 5, none⟩ (.slice A1 (zs.length + 1) c1) := ⟨_, rfl⟩
                      have h13 : ∀ k, k ≠ w.heap.size + 1 + 1 → W13.heap[k]? = w12.heap[k]? := fun k hk => by rw [hW13]; exact heap_setCell_other _ _ _ _ hk
                      have e13 : ∀ k, k < wc.heap.size → k ≠ w.heap.size + 1 + 1 → some k ≠ (Value.slice A5 zs.length c5).ownBlock → W13.heap[k]? = wc.heap[k]? := fun k hk hn ho => (h13 k hn).trans (e12 k hk ho)
                      have HF := hid (dl_next mkL_f0 (M := ML) (xs := zs.map toL) (nx := nxO (fun x : S90 => x.f0) (zs.map toL)) (r := ns s6) (y := toL ⟨ix, ys⟩) (b := b8) (k := m') (by have := HMZ.out; rwa [hm'] at this) HST.out.1 (fun h => (HST.out.2 h).1))
                      have hj2 : m' = many.toNat - (j + 1) := by omega
                      have HD13 := hid (show DS w.heap.size IN w s2 b2 s8 bq ⟨x.hm, x.hf, true, x.md, x.fs, x.ls ++ (zs ++ [⟨ix, ys⟩])⟩ W13 by
                        have hi9 := HD9.out.ri.lt
                        rw [hx0.out, List.nil_append]
                        refine ⟨HD9.out.rb.blk (e13 _ (by omega) (by omega) (hne _ (.inl (by omega)))), HD9.out.rg.blk (e13 _ (by omega) (by omega) (hne _ (.inl (by omega)))), HD9.out.ri.blk (e13 _ hi9 (by omega) (hne _ (.inr rfl))), ⟨v4, _, by rw [hW13]; exact HNC12.out.set5 _, ?_, ?_⟩, (HD9.out.be.trans hB12).trans (by rw [hW13]; exact (Below.refl _ _).setCell (p := ⟨w.heap.size + 1 + 1, 5, none⟩) (by show w.heap.size ≤ w.heap.size + 1 + 1; omega) _), HD9.out.lt, rfl⟩
                        · exact Kd.R_mono (Kd.R_step H49.out (fun k hk hl => e13 k hl (by omega) hk.2)) (fun k hk => hk.1)
                        · exact Kd.R_step HR1.out (fun k hk _ => h13 k (by omega)))
                      rw [← hW13]
                      clear hW13 h13 e13 e12 hG12 hB12 n5 y5
                      exact ⟨⟨j + 1, zs ++ [⟨ix, ys⟩], s8, bq, by first | go_num | simp, hjn', hid (by rw [List.length_append, HY2.out]; rfl), by omega, by omega, HD13, hid (fun h => .inr (HF.out.1 (HBQ.out.trans h))), hid (fun h => by
                        have hb8 : b8 = false := by
                          have := HBQ.out.trans h
                          cases b8; rfl; cases this
                        have := (HST.out.2 hb8).2
                        refine ⟨H9.out, by omega, ?_⟩
                        rw [HF.out.2 (HBQ.out.trans h), List.map_append, ← hj2, show zs.map toL ++ [(⟨ix, ys⟩ : S86)].map toL = zs.map toL ++ [toL ⟨ix, ys⟩] from rfl, nxO_app])⟩, by simp [intOf]; omega⟩
                  · go_wp2_with fail
                    go_meet
                    obtain ⟨h9, hjs, hMZ⟩ := HYes6.out (by trivial)
                    have hx0 := HXL.out h9
                    rw [show many.toNat - j = 0 by omega, dItems] at hMZ
                    simp only [aheadD, List.append_nil] at hMZ
                    exact ⟨s6, false, _, rfl, HD6, hid (fun h => (by cases h)), hid (fun _ => ⟨h9, by
                      unfold dBody
                      rw [if_neg (by decide), if_neg (by decide), HML.out, hMZ, hx0]; rfl, fun h => absurd h (by decide)⟩)⟩
            · have hx0 : (X == 0) = false := by simp; omega
              have hx1 : (X == 1) = false := by simp; omega
              have hx2 : (X == 2) = false := by simp; omega
              go_wp2_with fail
              go_meet
              have h9 : b9 = true := by rw [← HB9.out, decide_eq_true hx]; simp
              exact ⟨p, b9, x, rfl, HD4, hid (fun _ => .inl h9), hid (fun h => by rw [h9] at h; cases h)⟩
          case rest =>
            obtain ⟨s3, b3, x3, rfl, HD5, HA, HB⟩ := hcut
            obtain ⟨bq, hbq⟩ : ∃ bq : Bool, (b2 || b3 || decide (0 < s3.size)) = bq := ⟨_, rfl⟩
            have HBQ := hid hbq
            obtain ⟨c0, c1, f0, f1⟩ := HD5.out.rg
            obtain ⟨i0, i1, g0, g1⟩ := HD5.out.ri
            obtain ⟨hls, k, hk, hMk⟩ := HD.out.yes rfl
            obtain ⟨k', rfl⟩ : ∃ k', k = k' + 1 := ⟨k - 1, by omega⟩
            rw [HNST.out] at hMk
            have hRS := row_step (k := k') (V := x.v) (V3 := x3.v) HPT.out HB9.out HA.out (fun h => ⟨(HB.out h).1, (HB.out h).2.1⟩)
            rw [HBQ.out, ← hMk] at hRS
            have hg5 := HD5.out.rg.lt
            have hrd : ∀ q, q ≠ w.heap.size + 1 → (wc.setCell ⟨w.heap.size + 1, 1, none⟩ (.bool bq)).heap[q]? = wc.heap[q]? := fun q hq => heap_setCell_other _ _ _ _ hq
            have HFIN := hid (show DL w.heap.size w M X s2 bq x3 (wc.setCell ⟨w.heap.size + 1, 1, none⟩ (.bool bq)) from
              ⟨HD5.out.rb.blk (hrd _ (by omega)), HD5.out.rg.set1 bq, (HD5.out.dn.step (hrd _ (by omega)) (fun q hq _ => hrd _ (by omega))).mono (fun q hq => hq.1), hRS.1, fun h => by
                obtain ⟨e1, e2, e3⟩ := hRS.2 h
                exact ⟨fun hX2 => ((HB.out e3).2.2 hX2).trans (hls (by omega)), k', by omega, e1⟩, HD5.out.be.setCell (p := ⟨w.heap.size + 1, 1, none⟩) (by show w.heap.size ≤ w.heap.size + 1; omega) _, by omega, by omega⟩)
            clear hrd hRS hMk hls
            have hms : szOf (w.heap.size + 1) (wc.setCell ⟨w.heap.size + 1, 1, none⟩ (.bool bq)) < szOf (w.heap.size + 1) wr := by
              rw [HFIN.out.rc.szOf, HD.out.rc.szOf]; omega
            cases b2 with
            | true =>
              have hq : bq = true := by rw [← hbq]; rfl
              subst hq
              go_wp2_with fail
              exact ⟨⟨X, s2, _, x3, rfl, by omega, HFIN⟩, hms⟩
            | false =>
              cases b3 with
              | true =>
                have hq : bq = true := by rw [← hbq]; rfl
                subst hq
                go_wp2_with fail
                exact ⟨⟨X, s2, _, x3, rfl, by omega, HFIN⟩, hms⟩
              | false =>
                rcases (show s3.size = 0 ∨ 0 < s3.size by omega) with h3 | h3
                · have hq : bq = false := by rw [← hbq, h3]; rfl
                  subst hq
                  obtain ⟨-, h32⟩ := empty_yes h3
                  go_wp2_with fail
                  exact ⟨⟨X, s2, _, x3, rfl, by omega, HFIN⟩, hms⟩
                · have hq : bq = true := by rw [← hbq, decide_eq_true h3]; rfl
                  subst hq
                  have h32 := empty_no h3
                  go_wp2_with fail
                  exact ⟨⟨X, s2, _, x3, rfl, by omega, HFIN⟩, hms⟩
end Go.Proofs.YtiohiiekaofkbaaGreatDoor
/- names.Of: the names that the first custom of that name tells. -/
namespace Go.Proofs.YtiohiiekaofkbaaGreatDoor
set_option linter.unusedVariables false
set_option linter.unusedSimpArgs false
open Go.RowKit Go.Proofs.YtiohiiekaofkbaaGreatDoor.PNamesReads Go.Proofs.YtiohiiekaofkbaaGreatDoorW.PrintWords
def firstC (l : List S91) : Option S91 := l.find? (fun x => x.f1.toList == [110, 97, 109, 101])
def PostOf (w : World) (r : Option S91) (e : Ending) (w' : World) : Prop := match r with
  | some x => PostRead w (readM (ns x.f2)) e w'
  | none => e = .returned (.tuple #[.agg #[.bool false, .bool false, .bool false, .string ⟨#[]⟩, .slice none 0 0, .slice none 0 0], .bool false])
theorem firstC_at (l : List S91) (i : Nat) (hi : i < l.length) (h : ∀ j (hj : j < l.length), j < i → (l[j].f1.toList == [110, 97, 109, 101]) = false) : (l[i].f1.toList == [110, 97, 109, 101]) = true → firstC l = some l[i] := by
  intro hb
  unfold firstC
  induction l generalizing i with
  | nil => cases hi
  | cons x t ih =>
    cases i with
    | zero => simp only [List.getElem_cons_zero] at hb ⊢; rw [List.find?_cons_of_pos (by simpa using hb)]
    | succ i =>
      have h0 := h 0 (by simp) (by omega)
      simp only [List.getElem_cons_zero] at h0
      rw [List.find?_cons_of_neg (by simp [h0])]
      simp only [List.getElem_cons_succ] at hb ⊢
      exact ih i (by simpa using hi) (fun j hj hji => by have := h (j + 1) (by simpa using hj) (by omega); simpa using this) hb
theorem firstC_none (l : List S91) (h : ∀ j (hj : j < l.length), (l[j].f1.toList == [110, 97, 109, 101]) = false) : firstC l = none := by
  unfold firstC
  rw [List.find?_eq_none]
  intro x hx
  obtain ⟨j, hj, rfl⟩ := List.mem_iff_getElem.1 hx
  simp [h j hj]
set_option maxRecDepth 100000 in
set_option maxHeartbeats 8000000 in
theorem of_walk (A : Option Addr) (c : Nat) (fa : Option Addr) (fc : Nat) (l : List S91) (w : World) (hC : k91.C w A l.length l) (hc : l.length ≤ c) (hl : l.length ≤ 20) (hG : Glob w) (hM : GlobM w) (hb : ∀ x ∈ l, x.f2.size ≤ 1000000000) :
    Calls Tryz.prog 8 #[.agg #[.slice none 0 0, .slice none 0 0, .slice fa 0 fc, .slice none 0 0, .slice none 0 0, .slice none 0 0, .slice none 0 0, .bool false, .int .u32 0, .slice none 0 0, .bool false, .slice none 0 0, .slice none 0 0, .slice A l.length c]] w (fun e w' => Below w.heap.size w w' ∧ PostOf w (firstC l) e w') := by
  have HC := hid hC
  have HG := hid hG
  have HM := hid hM
  have HB := hid hb
  clear hC hG hM hb
  go_enter Tryz.func8, Tryz.ntmps8
  go_wp2_with fail
  go_loopw [9] (fun v9 wr => ∃ i : Nat, v9 = .int .i64 i ∧ i ≤ l.length ∧ Hid (∀ j (hj : j < l.length), j < i → (l[j].f1.toList == [110, 97, 109, 101]) = false) ∧ Hid (NmC (w.heap.size + 1) false false false ⟨#[]⟩ (.slice none 0 0) (.slice none 0 0) wr) ∧ Hid (Below w.heap.size w wr)) (fun v9 _ => l.length - (intOf v9).toNat)
  case atStart => exact ⟨0, rfl, Nat.zero_le _, hid (fun j hj h => absurd h (Nat.not_lt_zero j)), hid ⟨by go_simp, by go_simp, by go_simp, by go_simp, by go_simp, by go_simp, by go_simp, by go_simp, by go_simp, by go_simp, by go_simp, by go_simp⟩, hid bel⟩
  case round =>
    obtain ⟨i, rfl, hil, HF, HN, HW⟩ := hrel
    obtain ⟨r0, r1, r2, r3, r4, r5, z0, z1, z2, z3, z4, z5⟩ := HN.out
    by_cases hi : i < l.length
    · obtain ⟨ad, rfl, s0, s1, s2⟩ := at_T91 (Kd.C_below HC.out HW.out) (i : Int) (by omega) (by omega)
      rw [Int.toNat_natCast] at s0 s1 s2
      have hrd : rd_T91 l (i : Int) = l[i] := by simp [rd_T91, List.getD_eq_getElem?_getD, List.getElem?_eq_getElem hi]
      rw [hrd] at s0 s1 s2
      obtain ⟨y, hy⟩ : ∃ y, l[i] = y := ⟨_, rfl⟩
      rw [hy] at s0 s1 s2
      have hi2 : (i : Int) < (l.length : Int) := by omega
      have HY := hid hy
      have HBA := hid (show Below w.heap.size w (wr.alloc (.cells #[.int .i64 y.f0, .string y.f1, .string y.f2] 91)) from HW.out.alloc HW.out.size _)
      have HRD := hid (fun W (hW : Below w.heap.size w W) => read_walk y.f2 W (HG.out.of hW) (HM.out.below hW) (by have := HB.out y (by rw [← hy]; exact List.getElem_mem hi); exact this))
      clear hy
      go_upto_region 4 with fail
      rcases hq : (y.f1.toList == [110, 97, 109, 101]) with _ | _
      · have hq2 : ¬ y.f1.toList = [110, 97, 109, 101] := by simpa using hq
        have hq3 := hid hq
        go_wp2_with fail
        refine ⟨⟨i + 1, by go_num, by omega, hid (fun j hj hji => ?_), hid (HN.out.blk (Below.heap_alloc _ _ _ HN.out.lt)), HBA⟩, by simp [intOf]; omega⟩
        rcases Nat.lt_or_ge j i with h | h
        · exact HF.out j hj h
        · have : j = i := by omega
          subst this
          rw [HY.out]; exact hq3.out
      · have hq2 : y.f1.toList = [110, 97, 109, 101] := by simpa using hq
        have hq3 := hid hq
        have hfst := firstC_at l i hi HF.out (by rw [HY.out]; exact hq3.out)
        rw [HY.out] at hfst
        have HFST := hid hfst
        clear hfst
        rcases hr : readM (ns y.f2) with er | ⟨V, p⟩
        · rw [hr] at HRD
          have HRR := hid hr
          clear hr
          clear r0 r1 r2 r3 r4 r5 z0 z1 z2 z3 z4 z5
          have HNA := hid (HN.out.blk (Below.heap_alloc wr (.cells #[.int .i64 y.f0, .string y.f1, .string y.f2] 91) _ HN.out.lt))
          go_wp2_with (first | (go_at_call 4; go_loud ((with_reducible refine (HRD.out _ HBA.out).mono ?_); rintro e w5 ⟨hb5, rfl⟩; have HB5 := hid (HBA.out.trans (hb5.mono HBA.out.size)); have HNZ := hid (HNA.out.blk (hb5.block _ HNA.out.lt)); obtain ⟨r0, r1, r2, r3, r4, r5, z0, z1, z2, z3, z4, z5⟩ := HNZ.out)))
          obtain ⟨W9, hW9⟩ : ∃ W9, W9 = (((((w5.setCell ⟨w.heap.size + 1, 0, none⟩ (.bool false)).setCell ⟨w.heap.size + 1, 1, none⟩ (.bool false)).setCell ⟨w.heap.size + 1, 2, none⟩ (.bool false)).setCell ⟨w.heap.size + 1, 3, none⟩ (.string ⟨#[]⟩)).setCell ⟨w.heap.size + 1, 4, none⟩ (.slice none 0 0)).setCell ⟨w.heap.size + 1, 5, none⟩ (.slice none 0 0) := ⟨_, rfl⟩
          have hb9 : Below w.heap.size w W9 := by rw [hW9]; exact below_set6 (HB5.out) _ (by omega) _ _ _ _ _ _
          obtain ⟨t0, t1, t2, t3, t4, t5, -, -, -, -, -, -⟩ := (show NmC (w.heap.size + 1) false false false ⟨#[]⟩ (.slice none 0 0) (.slice none 0 0) W9 by rw [hW9]; exact (((((HNZ.out.set0 _).set1 _).set2 _).set3 _).set4 _).set5 _)
          rw [← hW9]
          refine bodyPost_ret (v := .tuple #[.agg #[.bool false, .bool false, .bool false, .string ⟨#[]⟩, .slice none 0 0, .slice none 0 0], .bool false]) (by simp [results, Tryz.results8, go_sem, t0, t1, t2, t3, t4, t5]) rfl ⟨hb9, ?_⟩
          rw [HFST.out]
          show PostRead w (readM (ns y.f2)) _ _
          rw [HRR.out]
          exact rfl
        · rw [hr] at HRD
          have HRR := hid hr
          clear hr r0 r1 r2 r3 r4 r5 z0 z1 z2 z3 z4 z5
          have HNA := hid (HN.out.blk (Below.heap_alloc wr (.cells #[.int .i64 y.f0, .string y.f1, .string y.f2] 91) _ HN.out.lt))
          go_wp2_with (first | (go_at_call 4; go_loud ((with_reducible refine (HRD.out _ HBA.out).mono ?_); rintro e w5 ⟨hb5, v4, v5, rfl, h4, h5⟩; obtain ⟨A4, c4, rfl⟩ := Kd.R_slice h4; obtain ⟨A5, c5, rfl⟩ := Kd.R_slice h5; have H4 := hid h4; have H5 := hid h5; clear h4 h5; have HB5 := hid (HBA.out.trans (hb5.mono HBA.out.size)); have HNZ := hid (HNA.out.blk (hb5.block _ HNA.out.lt)); have hsz := HBA.out.size; obtain ⟨r0, r1, r2, r3, r4, r5, z0, z1, z2, z3, z4, z5⟩ := HNZ.out)))
          have hsz2 : w.heap.size + 1 < (wr.alloc (.cells #[.int .i64 y.f0, .string y.f1, .string y.f2] 91)).heap.size := HNA.out.lt
          obtain ⟨W9, hW9⟩ : ∃ W9, W9 = (((((w5.setCell ⟨w.heap.size + 1, 0, none⟩ (.bool V.hm)).setCell ⟨w.heap.size + 1, 1, none⟩ (.bool V.hf)).setCell ⟨w.heap.size + 1, 2, none⟩ (.bool V.hl)).setCell ⟨w.heap.size + 1, 3, none⟩ (.string V.md)).setCell ⟨w.heap.size + 1, 4, none⟩ (.slice A4 V.fs.length c4)).setCell ⟨w.heap.size + 1, 5, none⟩ (.slice A5 V.ls.length c5) := ⟨_, rfl⟩
          have hb9 : Below w.heap.size w W9 := by rw [hW9]; exact below_set6 (HB5.out) _ (by omega) _ _ _ _ _ _
          obtain ⟨t0, t1, t2, t3, t4, t5, -, -, -, -, -, -⟩ := (show NmC (w.heap.size + 1) V.hm V.hf V.hl V.md (.slice A4 V.fs.length c4) (.slice A5 V.ls.length c5) W9 by rw [hW9]; exact (((((HNZ.out.set0 _).set1 _).set2 _).set3 _).set4 _).set5 _)
          have hq9 : ∀ k, (wr.alloc (.cells #[.int .i64 y.f0, .string y.f1, .string y.f2] 91)).heap.size ≤ k → k < w5.heap.size → W9.heap[k]? = w5.heap[k]? := fun k hk _ => by rw [hW9]; exact heap_set6 w5 _ k (by omega) _ _ _ _ _ _
          have h4 := Kd.R_mono (ok' := fun k => w.heap.size ≤ k) (Kd.R_lower (Kd.R_step H4.out hq9) hsz) (fun k hk => by omega)
          have h5 := Kd.R_mono (ok' := fun k => w.heap.size ≤ k) (Kd.R_lower (Kd.R_step H5.out hq9) hsz) (fun k hk => by omega)
          rw [← hW9]
          refine bodyPost_ret (v := .tuple #[.agg #[.bool V.hm, .bool V.hf, .bool V.hl, .string V.md, .slice A4 V.fs.length c4, .slice A5 V.ls.length c5], .bool true]) (by simp [results, Tryz.results8, go_sem, t0, t1, t2, t3, t4, t5]) rfl ⟨hb9, ?_⟩
          rw [HFST.out]
          show PostRead w (readM (ns y.f2)) _ _
          rw [HRR.out]
          exact ⟨_, _, rfl, h4, h5⟩
    · have hi2 : ¬ (i : Int) < (l.length : Int) := by omega
      have HFST := hid (firstC_none l (fun j hj => HF.out j hj (by omega)))
      have HNZ := hid HN.out
      go_wp2_with fail
      obtain ⟨W9, hW9⟩ : ∃ W9, W9 = (((((wr.setCell ⟨w.heap.size + 1, 0, none⟩ (.bool false)).setCell ⟨w.heap.size + 1, 1, none⟩ (.bool false)).setCell ⟨w.heap.size + 1, 2, none⟩ (.bool false)).setCell ⟨w.heap.size + 1, 3, none⟩ (.string ⟨#[]⟩)).setCell ⟨w.heap.size + 1, 4, none⟩ (.slice none 0 0)).setCell ⟨w.heap.size + 1, 5, none⟩ (.slice none 0 0) := ⟨_, rfl⟩
      have hb9 : Below w.heap.size w W9 := by rw [hW9]; exact below_set6 (HW.out) _ (by omega) _ _ _ _ _ _
      obtain ⟨t0, t1, t2, t3, t4, t5, -, -, -, -, -, -⟩ := (show NmC (w.heap.size + 1) false false false ⟨#[]⟩ (.slice none 0 0) (.slice none 0 0) W9 by rw [hW9]; exact (((((HNZ.out.set0 _).set1 _).set2 _).set3 _).set4 _).set5 _)
      rw [← hW9]
      refine bodyPost_ret (v := .tuple #[.agg #[.bool false, .bool false, .bool false, .string ⟨#[]⟩, .slice none 0 0, .slice none 0 0], .bool false]) (by simp [results, Tryz.results8, go_sem, t0, t1, t2, t3, t4, t5]) rfl ⟨hb9, ?_⟩
      rw [HFST.out]
      exact rfl
end Go.Proofs.YtiohiiekaofkbaaGreatDoor
/- May names be: names.Right. -/
namespace Go.Proofs.YtiohiiekaofkbaaGreatDoor
set_option linter.unusedVariables false
set_option linter.unusedSimpArgs false
open Go.RowKit Go.Proofs.YtiohiiekaofkbaaGreatDoor.PNamesReads Go.Proofs.YtiohiiekaofkbaaGreatDoorW.PrintWords
def thereB (b1 b2 b3 : Bool) (m : ByteArray) (f l : Nat) : Bool := (b1 || m.toList.isEmpty) && (b2 || decide (f = 0)) && (b3 || decide (l = 0))
def localsB (l : List S90) : Bool := allB (upB (lIdx l)) l.length && allB (lNamed l) l.length
def nrightB (x : Ns) : Bool := thereB x.hm x.hf x.hl x.md x.fs.length x.ls.length && vld x.md && named x.fs && localsB x.ls
set_option maxRecDepth 100000 in
set_option maxHeartbeats 8000000 in
theorem right_walk (x : Ns) (A : Option Addr) (c : Nat) (B : Option Addr) (d : Nat) (w : World) (hx : x.at A c B d w) (hs : x.small) :
    Calls Tryz.prog 55 #[.agg #[.bool x.hm, .bool x.hf, .bool x.hl, .string x.md, .slice A x.fs.length c, .slice B x.ls.length d]] w fun e w' => e = .returned (.bool (nrightB x)) ∧ Below w.heap.size w w' := by
  have hu := Tryz.underlying26
  have HN := hid (fun W (h : Below w.heap.size w W) => named_walk A c x.fs W (hx.below h).1 hs.2.1 hs.2.2.2.1)
  have HR := hid (fun W (h : Below w.heap.size w W) => risesLocal_walk B d x.ls W (hx.below h).2.2.1 hs.2.2.1)
  have HL := hid (fun W (h : Below w.heap.size w W) => containsLocal_walk B d x.ls W (hx.below h).2.2.1 hs.2.2.1 hs.2.2.2.2)
  have HV := hid (fun W => vld_walk x.md W (by have := hs.1; omega))
  have h1 := hs.2.1
  have h2 := hs.2.2.1
  clear hx hs
  obtain ⟨b1, b2, b3, m, f, l⟩ := x
  dsimp only at HN HR HL HV h1 h2 ⊢
  have HS : Hid (nrightB ⟨b1, b2, b3, m, f, l⟩ = (thereB b1 b2 b3 m f.length l.length && vld m && named f && localsB l)) := rfl
  obtain ⟨nf, hnf⟩ : ∃ n, f.length = n := ⟨_, rfl⟩
  obtain ⟨nl, hnl⟩ : ∃ n, l.length = n := ⟨_, rfl⟩
  rw [hnf] at HN HS h1 ⊢
  rw [hnl] at HR HL HS h2 ⊢
  have hR2 : allB (upB (lIdx l)) nl = false → localsB l = false := fun h => by rw [localsB, hnl, h]; rfl
  have hR3 : allB (upB (lIdx l)) nl = true → localsB l = allB (lNamed l) nl := fun h => by rw [localsB, hnl, h, Bool.true_and]
  have HLo := hid hR2
  have HLo2 := hid hR3
  clear hnf hnl hR2 hR3
  go_enter Tryz.func55, Tryz.ntmps55
  go_upto_region 1 with (fail)
  go_cut [3] (fun s3 wx => s3 = .bool (thereB b1 b2 b3 m nf nl) ∧ wx = w.alloc (.cells #[.bool b1, .bool b2, .bool b3, .string m, .slice A nf c, .slice B nl d] 26))
  case first =>
    have HT : Hid (thereB b1 b2 b3 m nf nl = ((b1 || m.toList.isEmpty) && (b2 || decide (nf = 0)) && (b3 || decide (nl = 0)))) := rfl
    clear HS HN HR HL HV HLo HLo2
    rcases nf with _ | nf <;> rcases nl with _ | nl <;> cases b1 <;> cases b2 <;> cases b3 <;> (go_wp2; all_goals (go_meet; refine ⟨?_, rfl⟩; rw [HT.out]; first | (simp [*]; done) | (simp [*]; omega)))
  case rest =>
    obtain ⟨rfl, rfl⟩ := hcut
    have hB1 : Below w.heap.size w (w.alloc (.cells #[.bool b1, .bool b2, .bool b3, .string m, .slice A nf c, .slice B nl d] 26)) := bel
    have HB1 := hid hB1
    clear hB1
    go_upto_region 2 with (fail)
    go_cut [4] (fun s4 wx => s4 = .bool (localsB l) ∧ wx.cell? ⟨w.heap.size, 3, none⟩ = some (.string m) ∧ wx.cell? ⟨w.heap.size, 4, none⟩ = some (.slice A nf c) ∧ Hid (Below w.heap.size w wx))
    case first =>
      rcases hr : allB (upB (lIdx l)) nl with _ | _
      · have hl2 := HLo.out hr
        rw [hr] at HR
        have HL2 := hid hl2
        clear hr hl2
        go_wp2_with (first | (go_at_call 78; refine (HR.out _ HB1.out).mono ?_; rintro e w' ⟨rfl, hb1⟩; (first | have hq1 := hz1 | have hq1 := True.intro); (first | have hq0 := hz0 | have hq0 := True.intro); obtain ⟨hcc, hff⟩ := bcell hb1; have hz1 := hb1.size; (try simp at hz1); (try have hy1 := Nat.lt_of_lt_of_le hq1 hz1); (try have hy0 := Nat.lt_of_lt_of_le hq0 hz1); (try replace hz1 := Nat.lt_of_succ_le hz1); (try have hz0 := Nat.lt_of_succ_lt hz1)))
        go_meet
        exact ⟨by rw [HL2.out], by rw [hcc _ _ (by simp)]; simp [World.cell?_alloc_new], by rw [hcc _ _ (by simp)]; simp [World.cell?_alloc_new], hid (HB1.out.trans (hb1.mono HB1.out.size))⟩
      · have hl2 := HLo2.out hr
        rw [hr] at HR
        have HL2 := hid hl2
        clear hr hl2
        go_wp2_with (first | (go_at_call 78; refine (HR.out _ HB1.out).mono ?_; rintro e w' ⟨rfl, hb1⟩; (first | have hq1 := hz1 | have hq1 := True.intro); (first | have hq0 := hz0 | have hq0 := True.intro); obtain ⟨hcc, hff⟩ := bcell hb1; have hz1 := hb1.size; (try simp at hz1); (try have hy1 := Nat.lt_of_lt_of_le hq1 hz1); (try have hy0 := Nat.lt_of_lt_of_le hq0 hz1); (try replace hz1 := Nat.lt_of_succ_le hz1); (try have hz0 := Nat.lt_of_succ_lt hz1); have HB2 := hid (HB1.out.trans (hb1.mono HB1.out.size))) | (go_at_call 80; refine (HL.out _ HB2.out).mono ?_; rintro e w' ⟨rfl, hb2⟩))
        go_meet
        have hz := hb1.size
        simp at hz
        obtain ⟨hcc2, _⟩ := bcell hb2
        exact ⟨by rw [HL2.out], by rw [hcc2 _ _ (by omega), hcc _ _ (by simp)]; simp [World.cell?_alloc_new], by rw [hcc2 _ _ (by omega), hcc _ _ (by simp)]; simp [World.cell?_alloc_new], hid (HB2.out.trans (hb2.mono HB2.out.size))⟩
    case rest =>
      obtain ⟨rfl, k1, k2, HB2⟩ := hcut
      have hz := cell_lt k1
      rcases ht : thereB b1 b2 b3 m nf nl with _ | _
      · rw [ht, Bool.false_and, Bool.false_and, Bool.false_and] at HS
        clear ht
        go_wp2
        go_ret
        exact ⟨ret_bool HS.out.symm, HB2.out⟩
      · rw [ht, Bool.true_and] at HS
        clear ht
        rcases hv : vld m with _ | _
        · rw [hv, Bool.false_and, Bool.false_and] at HS
          rw [hv] at HV
          clear hv
          go_wp2_with (first | (go_at_call 83; refine (HV.out _).mono ?_; rintro e w' ⟨rfl, rfl⟩))
          go_ret
          exact ⟨ret_bool HS.out.symm, HB2.out⟩
        · rw [hv, Bool.true_and] at HS
          rw [hv] at HV
          clear hv
          rcases hn : named f with _ | _
          · rw [hn, Bool.false_and] at HS
            rw [hn] at HN
            clear hn
            go_wp2_with (first | (go_at_call 83; refine (HV.out _).mono ?_; rintro e w' ⟨rfl, rfl⟩) | (go_at_call 82; refine (HN.out _ HB2.out).mono ?_; rintro e w' ⟨rfl, hb1⟩))
            go_ret
            exact ⟨ret_bool HS.out.symm, HB2.out.trans (hb1.mono HB2.out.size)⟩
          · rw [hn, Bool.true_and] at HS
            rw [hn] at HN
            clear hn
            go_wp2_with (first | (go_at_call 83; refine (HV.out _).mono ?_; rintro e w' ⟨rfl, rfl⟩) | (go_at_call 82; refine (HN.out _ HB2.out).mono ?_; rintro e w' ⟨rfl, hb1⟩))
            go_ret
            exact ⟨ret_bool HS.out.symm, HB2.out.trans (hb1.mono HB2.out.size)⟩
end Go.Proofs.YtiohiiekaofkbaaGreatDoor
