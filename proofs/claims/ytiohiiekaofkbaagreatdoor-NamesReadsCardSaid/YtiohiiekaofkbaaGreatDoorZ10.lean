/- Texts of this claim, as far as they are used here: L6, L7, L9, L10, Y0, PNamesReadsx1. -/
import Derived.Test.YtiohiiekaofkbaaGreatDoorZ09
import Derived.Test.YtiohiiekaofkbaaGreatDoorZ07
import Derived.Test.YtiohiiekaofkbaaGreatDoorZ04
import Derived.Room.AppendFits
/- The document's reader: list, walked. -/
namespace Go.Proofs.YtiohiiekaofkbaaGreatDoor
set_option linter.unusedVariables false
set_option linter.unusedSimpArgs false
open Go.RowKit Go.Proofs.YtiohiiekaofkbaaGreatDoor.PNamesReads Go.Proofs.YtiohiiekaofkbaaGreatDoorW.PrintWords
theorem dn_step {s s1 s2 x : ByteArray} {ix : Int} {b1 b2 : Bool} (h1 : (b1 = true ∧ numL (ns s) = none) ∨ (b1 = false ∧ numL (ns s) = some (ix, ns s1)))
    (h2 : (b2 = true ∧ (if b1 = true then none else dTxt (ns s1)) = none) ∨ (b2 = false ∧ b1 = false ∧ dTxt (ns s1) = some (x, ns s2))) : (b2 = true → dStep mkN (ns s) = none) ∧ (b2 = false → dStep mkN (ns s) = some (⟨ix, x⟩, ns s2) ∧ s2.size < s.size) := by
  unfold dStep
  rcases h1 with ⟨rfl, h1⟩ | ⟨rfl, h1⟩
  · rw [h1]
    rcases h2 with ⟨rfl, -⟩ | ⟨-, h, -⟩
    · exact ⟨fun _ => rfl, fun h => (by cases h)⟩
    · cases h
  · obtain ⟨-, -, hl1, hl8⟩ := numL_rest (ns_u8 s) h1
    rw [h1]
    simp only
    unfold mkN
    rcases h2 with ⟨rfl, h2⟩ | ⟨rfl, -, h2⟩
    · have h2 : dTxt (ns s1) = none := h2
      rw [h2]
      exact ⟨fun _ => rfl, fun h => (by cases h)⟩
    · have hl2 := (dTxt_rest (ns_u8 s1) h2).1
      rw [ns_length, ns_length] at hl1 hl2
      rw [h2]
      exact ⟨fun h => (by cases h), fun _ => ⟨rfl, by omega⟩⟩
theorem dl_next {α : Type} {mk : Int → List Int → Option (α × List Int)} {f0 : α → Int} (hf : ∀ ix l x l', mk ix l = some (x, l') → f0 x = ix) {M : Option (List α × List Int)} {xs : List α} {k : Nat} {nx : Int} {r r2 : List Int} {y : α} {b : Bool} (hM : M = aheadD xs (dItems mk (k + 1) nx r))
    (h1 : b = true → dStep mk r = none) (h2 : b = false → dStep mk r = some (y, r2)) : ((b || decide (f0 y < nx)) = true → M = none) ∧ ((b || decide (f0 y < nx)) = false → M = aheadD (xs ++ [y]) (dItems mk k (f0 y + 1) r2)) := by
  cases b with
  | true =>
    refine ⟨fun _ => ?_, fun h => (by cases h)⟩
    rw [hM]; exact di_none xs (h1 rfl)
  | false =>
    have hs := di_some hf (nx := nx) (k := k) xs (h2 rfl)
    rw [hM, hs]
    simp only [Bool.false_or, decide_eq_true_eq, decide_eq_false_iff_not]
    exact ⟨fun h => if_pos h, fun h => if_neg h⟩
theorem nxO_last (ys : List S182) (m : Nat) (h : ys.length = m + 1) : nxO (fun x : S149 => x.f0) (ys.map toN) = (rd_T182 ys m).f0 + 1 := by
  unfold nxO
  rw [List.getLast?_eq_getElem?, List.length_map, h, List.getElem?_map]
  have hm : m < ys.length := by omega
  rw [show m + 1 - 1 = m by omega, List.getElem?_eq_getElem hm]
  have : rd_T182 ys m = ys[m] := by simp [rd_T182, List.getD_eq_getElem?_getD, List.getElem?_eq_getElem hm]
  rw [this]; rfl
theorem info_rName : (Tryz.prog.info? 182).map (fun i => (i.zero, i.size, i.bytes)) = some (some (.agg #[(.int .u32 0), (.string ⟨#[]⟩)]), 2, 24) := by kernel_rfl
set_option maxRecDepth 100000 in
set_option maxHeartbeats 8000000 in
theorem list_dwalk (g : Nat) (s : ByteArray) (b : Bool) (w : World) (h : RdC g s b w) (hs : s.size ≤ 1000000) :
    Calls Tryz.prog 21 #[.pointer (some ⟨g, 0, none⟩)] w (PostDL k182 182 frN g s.size w (if b then none else dList mkN (ns s))) := by
  obtain ⟨M, hM⟩ : ∃ M, (if b then none else dList mkN (ns s)) = M := ⟨_, rfl⟩
  rw [hM]
  have HM := hid hM
  have hlt := h.lt
  have HNU := hid (num2 g s b w h (by omega))
  have HNX := hid (fun (W : World) (s1 : ByteArray) (b1 : Bool) (h1 : RdC g s1 b1 W) (hs1 : s1.size ≤ 1000000000) => num2 g s1 b1 W h1 hs1)
  have HNM := hid (fun (W : World) (s1 : ByteArray) (b1 : Bool) (h1 : RdC g s1 b1 W) (hs1 : s1.size ≤ 1000000000) => name2 g s1 b1 W h1 hs1)
  clear hM h
  go_enter Tryz.func21, Tryz.ntmps21
  go_wp2_with (first | (go_at_call 19; (with_reducible refine HNU.out.mono ?_); rintro e w1 ⟨n, s1, b1, rfl, n0, n1, hC1, hz1, hR1, hN1⟩; have HC1 := hid hC1; have HR1 := hid hR1; have HN1 := hid hN1; clear hC1 hR1 hN1))
  have HW := hid (show (b1 = true → M = none) ∧ (b1 = false → M = dItems mkN n.toNat 0 (ns s1)) by
    rcases HN1.out with ⟨rfl, q⟩ | ⟨rfl, rfl, q⟩
    · refine ⟨fun _ => ?_, fun h => (by cases h)⟩
      rw [← HM.out]
      cases b
      · have q : numL (ns s) = none := q
        show dList mkN (ns s) = none
        unfold dList; rw [q]
      · rfl
    · refine ⟨fun h => (by cases h), fun _ => ?_⟩
      rw [← HM.out]
      show dList mkN (ns s) = _
      unfold dList; rw [q])
  clear HN1 HNU
  go_loopw [4, 5] (fun v4 v5 wr => ∃ (j : Nat) (ys : List S182) (s' : ByteArray) (bb : Bool), v5 = .int .u32 j ∧ (j : Int) ≤ n ∧ Hid (ys.length = j) ∧ s'.size ≤ s.size ∧ j ≤ s.size + 1 ∧ Hid (k182.R 182 wr w.heap.size (fun k => w.heap.size ≤ k) v4 ys) ∧ Hid (RdC g s' bb wr) ∧ Hid (bb = true → M = none) ∧ Hid (bb = false → j + s'.size ≤ s.size ∧ M = aheadD (ys.map toN) (dItems mkN (n.toNat - j) (nxO (fun x : S149 => x.f0) (ys.map toN)) (ns s'))) ∧ Hid (Rd g w wr)) (fun _ v5 _ => n.toNat - (intOf v5).toNat)
  case atStart => exact ⟨0, [], s1, b1, by go_num, by omega, hid rfl, hz1, by omega, hid (Kd.R_nil _ _ _ _ _), HC1, hid HW.out.1, hid (fun hb => ⟨by omega, by rw [HW.out.2 hb]; exact (aheadD_nil _).symm⟩), HR1⟩
  case round =>
    obtain ⟨j, ys, s', bb, rfl, hjn, HYL, hsz, hj1, HO, HC, HNo, HYes, HR⟩ := hrel
    obtain ⟨A4, c4, rfl⟩ := Kd.R_slice HO.out
    obtain ⟨c0, c1, f0, f1⟩ := HC.out
    cases bb with
    | true =>
      have HZ := hid (HNo.out rfl)
      by_cases hlt2 : (j : Int) < n
      all_goals
        go_wp2_with fail
        go_ret
        show PostDL k182 182 frN g s.size w M _ _
        rw [HZ.out]
        exact ⟨HR.out, ⟨_, _, rfl, HO.out⟩, s', hsz, HC.out⟩
    | false =>
      obtain ⟨hjs, hMY⟩ := HYes.out rfl
      have HMY := hid hMY
      clear hMY HNo HYes
      by_cases hlt2 : (j : Int) < n
      · have HX1 := hid (HNX.out wr s' false HC.out (by omega))
        obtain ⟨m', hm'⟩ : ∃ m' : Nat, n.toNat - j = m' + 1 := ⟨n.toNat - j - 1, by omega⟩
        go_upto_region 7 with (first | (go_at_call 19; (with_reducible refine HX1.out.mono ?_); rintro e w2 ⟨ix, s2, b2, rfl, x0, x1, hC2, hz2, hR2, hN2⟩; have HC2 := hid hC2; have HR2 := hid hR2; have HN2 := hid hN2; clear hC2 hR2 hN2))
        obtain ⟨W3, hW3⟩ : ∃ W3, W3 = w2.alloc (.cells #[.int .u32 ix, .string ⟨#[]⟩] 182) := ⟨_, rfl⟩
        have HB3 := hid (show Below w2.heap.size w2 W3 by rw [hW3]; exact bel)
        have HX3 := hid (show W3.cell? ⟨w2.heap.size, 0, none⟩ = some (.int .u32 ix) ∧ W3.cell? ⟨w2.heap.size, 1, none⟩ = some (.string ⟨#[]⟩) ∧ w2.heap.size < W3.heap.size ∧ W3.frozen? ⟨w2.heap.size, 1, none⟩ = false by rw [hW3]; exact ⟨by go_simp, by go_simp, by simp, by go_simp⟩)
        have HC3 := hid (HC2.out.below HB3.out)
        rw [← hW3]
        clear hW3 HC2 c0 c1 f0 f1
        have hgx : w2.heap.size ≠ g := by have := HR2.out.size; have := HC.out.lt; omega
        have HNM3 := hid (HNM.out W3 s2 b2 HC3.out (by omega))
        go_upto_region 8 with (first | (go_at_call 20; (with_reducible refine HNM3.out.mono ?_); rintro e w4 ⟨x, s3, b3, rfl, hC4, hz4, hR4, hN4⟩; have HC4 := hid hC4; have HR4 := hid hR4; have HN4 := hid hN4; clear hC4 hN4; have X0 := hR4.cell hgx HX3.out.1; have X1 := hR4.cell hgx HX3.out.2.1; have XF := rd_frozen hR4 hgx HX3.out.2.2.1 HX3.out.2.2.2))
        have hgw : g < w.heap.size := hlt
        obtain ⟨W5, hW5⟩ : ∃ W5, W5 = w4.setCell ⟨w2.heap.size, 1, none⟩ (.string x) := ⟨_, rfl⟩
        have HX5 := hid (show W5.cell? ⟨w2.heap.size, 0, none⟩ = some (.int .u32 ix) ∧ W5.cell? ⟨w2.heap.size, 1, none⟩ = some (.string x) by rw [hW5]; exact ⟨by go_simp, by go_simp⟩)
        have HK5 := hid (show ∀ k, k < wr.heap.size → k ≠ g → W5.heap[k]? = wr.heap[k]? from fun k hk hkg => by
          have z2 := HR2.out.size
          have z3 := HB3.out.size
          rw [hW5, heap_setCell_other _ _ _ _ (by show k ≠ w2.heap.size; omega), HR4.out.block k (by omega) (fun e => hkg (Option.some.inj e)), HB3.out.block k (by omega), HR2.out.block k hk (fun e => hkg (Option.some.inj e))])
        have HR45 := hid (rd_base ((HR.out.trans HR2.out).trans ((Rd.of_below HB3.out).trans HR4.out)) (show Below w.heap.size w4 W5 by rw [hW5]; exact (Below.refl _ _).setCell (p := ⟨w2.heap.size, 1, none⟩) (by show w.heap.size ≤ w2.heap.size; have := HR.out.size; have := HR2.out.size; omega) _))
        have HC5 := hid (HC4.out.blk (show W5.heap[g]? = w4.heap[g]? by rw [hW5, heap_setCell_other _ _ _ _ (by show g ≠ w2.heap.size; omega)]))
        have HO5 := hid (Kd.R_step HO.out (fun k hk hlt3 => HK5.out k hlt3 (by omega)))
        have hST := dn_step (s := s') (s1 := s2) (s2 := s3) (ix := ix) (b1 := b2) (b2 := b3) (x := x) (by simpa using HN2.out) HN4.out
        have HST := hid hST
        rw [← hW5]
        clear hW5 X0 X1 XF HN2 HN4 HC4 HC3 HNM3 HX3 HX1 hST
        obtain ⟨bq, hbq⟩ : ∃ bq : Bool, (b3 || decide (ix < nxO (fun x : S149 => x.f0) (ys.map toN))) = bq := ⟨_, rfl⟩
        have HBQ := hid hbq
        go_cut [46] (fun s46 wx => s46 = .bool bq ∧ Hid (RdC g s3 bq wx) ∧ Hid (Rd g W5 wx))
        case first =>
          obtain ⟨e0, -⟩ := HX5.out
          obtain ⟨c0, c1, f0, f1⟩ := HC5.out
          cases b3 with
          | true =>
            have hq : bq = true := by rw [← hbq]; rfl
            subst hq
            clear hbq
            refine wp_region_noPanic ?_
            refine wp_region_heldD 22 (S := (fun W => W.cell? ⟨g, 1, none⟩ = some (.bool true) ∧ W.frozen? ⟨g, 1, none⟩ = false)) (by kernel_rfl) ?hSa1 (fun hHeld => ?goa1)
            case hSa1 => exact ⟨c1, f1⟩
            refine tkD 0 ⟨some 27, .move (.tmp 0), 78, "ref.go:155", #[], none⟩ rfl ?_
            refine tkD 1 ⟨some 28, .move (.tmp 0), 78, "ref.go:155", #[], none⟩ rfl ?_
            refine tkD 2 ⟨some 29, .nilCheck (.tmp 28), 0, "ref.go:155", #[⟨1, .data⟩], none⟩ rfl ?_
            refine tkD 3 ⟨some 30, .fieldAddr 80 (.tmp 29) 1, 0, "ref.go:155", #[⟨2, .data⟩], none⟩ rfl ?_
            refine tkD 4 ⟨some 31, .load 4 (.tmp 30), 4, "ref.go:155", #[⟨3, .data⟩], none⟩ rfl ?_
            refine tkD 5 ⟨some 32, .move (.tmp 31), 4, "ref.go:155", #[⟨4, .data⟩], none⟩ rfl ?_
            refine tkDn 6 ⟨some 33, .move (.tmp 5), 47, "ref.go:155", #[⟨5, .guard⟩], some (5, false)⟩ rfl ?_
            refine tkDn 7 ⟨some 34, .binOp .gtr 47 (.tmp 33) (.const (.int .u32 0)) 47, 4, "ref.go:155", #[⟨6, .data⟩, ⟨5, .guard⟩], some (5, false)⟩ rfl ?_
            refine tkDn 8 ⟨some 35, .move (.tmp 34), 4, "ref.go:155", #[⟨7, .data⟩, ⟨5, .chain⟩, ⟨5, .guard⟩], some (5, false)⟩ rfl ?_
            refine tkDn 9 ⟨some 36, .fieldAddr 182 (.tmp 6) 0, 0, "ref.go:155", #[⟨8, .guard⟩], some (8, true)⟩ rfl ?_
            refine tkDn 10 ⟨some 37, .load 47 (.tmp 36), 47, "ref.go:155", #[⟨9, .data⟩, ⟨8, .guard⟩], some (8, true)⟩ rfl ?_
            refine tkDn 11 ⟨some 38, .move (.tmp 4), 29, "ref.go:155", #[⟨8, .guard⟩], some (8, true)⟩ rfl ?_
            refine tkDn 12 ⟨some 39, .move (.tmp 5), 47, "ref.go:155", #[⟨8, .guard⟩], some (8, true)⟩ rfl ?_
            refine tkDn 13 ⟨some 40, .binOp .sub 47 (.tmp 39) (.const (.int .u32 1)) 47, 47, "ref.go:155", #[⟨12, .data⟩, ⟨8, .guard⟩], some (8, true)⟩ rfl ?_
            refine tkDn 14 ⟨some 41, .indexAddr 29 (.tmp 38) (.tmp 40), 0, "ref.go:155", #[⟨11, .data⟩, ⟨13, .data⟩, ⟨8, .guard⟩], some (8, true)⟩ rfl ?_
            refine tkDn 15 ⟨some 42, .fieldAddr 182 (.tmp 41) 0, 0, "ref.go:155", #[⟨14, .data⟩, ⟨8, .guard⟩], some (8, true)⟩ rfl ?_
            refine tkDn 16 ⟨some 43, .load 47 (.tmp 42), 47, "ref.go:155", #[⟨15, .data⟩, ⟨8, .guard⟩], some (8, true)⟩ rfl ?_
            refine tkDn 17 ⟨some 44, .binOp .leq 47 (.tmp 37) (.tmp 43) 47, 4, "ref.go:155", #[⟨10, .data⟩, ⟨16, .data⟩, ⟨8, .guard⟩], some (8, true)⟩ rfl ?_
            refine tkDn 18 ⟨some 45, .pick (.tmp 35) (.tmp 44) (.const (.bool false)), 4, "ref.go:155", #[⟨8, .data⟩, ⟨17, .data⟩, ⟨5, .guard⟩], some (5, false)⟩ rfl ?_
            refine tkD 19 ⟨some 46, .pick (.tmp 32) (.const (.bool true)) (.tmp 45), 4, "ref.go:155", #[⟨5, .data⟩, ⟨18, .data⟩], none⟩ rfl ?_
            refine tkD 20 ⟨some 47, .nilCheck (.tmp 27), 0, "ref.go:155", #[⟨0, .data⟩, ⟨0, .phase⟩, ⟨1, .phase⟩, ⟨2, .phase⟩, ⟨3, .phase⟩, ⟨4, .phase⟩, ⟨5, .phase⟩, ⟨6, .phase⟩, ⟨7, .phase⟩, ⟨8, .phase⟩, ⟨9, .phase⟩, ⟨10, .phase⟩, ⟨11, .phase⟩, ⟨12, .phase⟩, ⟨13, .phase⟩, ⟨14, .phase⟩, ⟨15, .phase⟩, ⟨16, .phase⟩, ⟨17, .phase⟩, ⟨18, .phase⟩, ⟨19, .phase⟩], none⟩ rfl ?_
            refine tkD 21 ⟨some 48, .fieldAddr 80 (.tmp 47) 1, 0, "ref.go:155", #[⟨20, .data⟩, ⟨0, .phase⟩, ⟨1, .phase⟩, ⟨2, .phase⟩, ⟨3, .phase⟩, ⟨4, .phase⟩, ⟨5, .phase⟩, ⟨6, .phase⟩, ⟨7, .phase⟩, ⟨8, .phase⟩, ⟨9, .phase⟩, ⟨10, .phase⟩, ⟨11, .phase⟩, ⟨12, .phase⟩, ⟨13, .phase⟩, ⟨14, .phase⟩, ⟨15, .phase⟩, ⟨16, .phase⟩, ⟨17, .phase⟩, ⟨18, .phase⟩, ⟨19, .phase⟩], none⟩ rfl ?_
            refine wpAnyD_ready (rs := [22]) (by kernel_rfl) (by simp) ?_
            refine AllReadyD.last (o := ⟨none, .store 4 (.tmp 48) (.tmp 46), 0, "ref.go:155", #[⟨21, .data⟩, ⟨19, .data⟩, ⟨8, .chain⟩, ⟨0, .phase⟩, ⟨1, .phase⟩, ⟨2, .phase⟩, ⟨3, .phase⟩, ⟨4, .phase⟩, ⟨5, .phase⟩, ⟨6, .phase⟩, ⟨7, .phase⟩, ⟨8, .phase⟩, ⟨9, .phase⟩, ⟨10, .phase⟩, ⟨11, .phase⟩, ⟨12, .phase⟩, ⟨13, .phase⟩, ⟨14, .phase⟩, ⟨15, .phase⟩, ⟨16, .phase⟩, ⟨17, .phase⟩, ⟨18, .phase⟩, ⟨19, .phase⟩], none⟩) rfl (by kernel_rfl) (fun K hK => ?_)
            go_simp
            refine hK.out _ _ ?_
            clear hK K
            try simp only [Act.put, List.setIfInBounds_toArray, List.set_cons_zero, List.set_cons_succ]
            refine NoPanic.normal ?_
            go_wp2_with fail
            go_meet
            exact ⟨rfl, hid ((HC5.out.below (Below.drew (Below.refl _ _))).set1 _), hid ((Rd.of_below (Below.drew (Below.refl _ _))).trans (grown_setCell _ g 1 _))⟩
          | false =>
            rcases j with _ | m
            · have hy0 : ys = [] := List.length_eq_zero_iff.1 HYL.out
              have hq : bq = false := by rw [← hbq, hy0]; simp [nxO]; omega
              subst hq
              clear hbq hy0
              refine wp_region_noPanic ?_
              refine wp_region_heldD 22 (S := (fun W => W.cell? ⟨g, 1, none⟩ = some (.bool false) ∧ W.frozen? ⟨g, 1, none⟩ = false)) (by kernel_rfl) ?hSb1 (fun hHeld => ?gob1)
              case hSb1 => exact ⟨c1, f1⟩
              refine tkD 0 ⟨some 27, .move (.tmp 0), 78, "ref.go:155", #[], none⟩ rfl ?_
              refine tkD 1 ⟨some 28, .move (.tmp 0), 78, "ref.go:155", #[], none⟩ rfl ?_
              refine tkD 2 ⟨some 29, .nilCheck (.tmp 28), 0, "ref.go:155", #[⟨1, .data⟩], none⟩ rfl ?_
              refine tkD 3 ⟨some 30, .fieldAddr 80 (.tmp 29) 1, 0, "ref.go:155", #[⟨2, .data⟩], none⟩ rfl ?_
              refine tkD 4 ⟨some 31, .load 4 (.tmp 30), 4, "ref.go:155", #[⟨3, .data⟩], none⟩ rfl ?_
              refine tkD 5 ⟨some 32, .move (.tmp 31), 4, "ref.go:155", #[⟨4, .data⟩], none⟩ rfl ?_
              refine tkD 6 ⟨some 33, .move (.tmp 5), 47, "ref.go:155", #[⟨5, .guard⟩], some (5, false)⟩ rfl ?_
              refine tkD 7 ⟨some 34, .binOp .gtr 47 (.tmp 33) (.const (.int .u32 0)) 47, 4, "ref.go:155", #[⟨6, .data⟩, ⟨5, .guard⟩], some (5, false)⟩ rfl ?_
              refine tkD 8 ⟨some 35, .move (.tmp 34), 4, "ref.go:155", #[⟨7, .data⟩, ⟨5, .chain⟩, ⟨5, .guard⟩], some (5, false)⟩ rfl ?_
              refine tkDn 9 ⟨some 36, .fieldAddr 182 (.tmp 6) 0, 0, "ref.go:155", #[⟨8, .guard⟩], some (8, true)⟩ rfl ?_
              refine tkDn 10 ⟨some 37, .load 47 (.tmp 36), 47, "ref.go:155", #[⟨9, .data⟩, ⟨8, .guard⟩], some (8, true)⟩ rfl ?_
              refine tkDn 11 ⟨some 38, .move (.tmp 4), 29, "ref.go:155", #[⟨8, .guard⟩], some (8, true)⟩ rfl ?_
              refine tkDn 12 ⟨some 39, .move (.tmp 5), 47, "ref.go:155", #[⟨8, .guard⟩], some (8, true)⟩ rfl ?_
              refine tkDn 13 ⟨some 40, .binOp .sub 47 (.tmp 39) (.const (.int .u32 1)) 47, 47, "ref.go:155", #[⟨12, .data⟩, ⟨8, .guard⟩], some (8, true)⟩ rfl ?_
              refine tkDn 14 ⟨some 41, .indexAddr 29 (.tmp 38) (.tmp 40), 0, "ref.go:155", #[⟨11, .data⟩, ⟨13, .data⟩, ⟨8, .guard⟩], some (8, true)⟩ rfl ?_
              refine tkDn 15 ⟨some 42, .fieldAddr 182 (.tmp 41) 0, 0, "ref.go:155", #[⟨14, .data⟩, ⟨8, .guard⟩], some (8, true)⟩ rfl ?_
              refine tkDn 16 ⟨some 43, .load 47 (.tmp 42), 47, "ref.go:155", #[⟨15, .data⟩, ⟨8, .guard⟩], some (8, true)⟩ rfl ?_
              refine tkDn 17 ⟨some 44, .binOp .leq 47 (.tmp 37) (.tmp 43) 47, 4, "ref.go:155", #[⟨10, .data⟩, ⟨16, .data⟩, ⟨8, .guard⟩], some (8, true)⟩ rfl ?_
              refine tkD 18 ⟨some 45, .pick (.tmp 35) (.tmp 44) (.const (.bool false)), 4, "ref.go:155", #[⟨8, .data⟩, ⟨17, .data⟩, ⟨5, .guard⟩], some (5, false)⟩ rfl ?_
              refine tkD 19 ⟨some 46, .pick (.tmp 32) (.const (.bool true)) (.tmp 45), 4, "ref.go:155", #[⟨5, .data⟩, ⟨18, .data⟩], none⟩ rfl ?_
              refine tkD 20 ⟨some 47, .nilCheck (.tmp 27), 0, "ref.go:155", #[⟨0, .data⟩, ⟨0, .phase⟩, ⟨1, .phase⟩, ⟨2, .phase⟩, ⟨3, .phase⟩, ⟨4, .phase⟩, ⟨5, .phase⟩, ⟨6, .phase⟩, ⟨7, .phase⟩, ⟨8, .phase⟩, ⟨9, .phase⟩, ⟨10, .phase⟩, ⟨11, .phase⟩, ⟨12, .phase⟩, ⟨13, .phase⟩, ⟨14, .phase⟩, ⟨15, .phase⟩, ⟨16, .phase⟩, ⟨17, .phase⟩, ⟨18, .phase⟩, ⟨19, .phase⟩], none⟩ rfl ?_
              refine tkD 21 ⟨some 48, .fieldAddr 80 (.tmp 47) 1, 0, "ref.go:155", #[⟨20, .data⟩, ⟨0, .phase⟩, ⟨1, .phase⟩, ⟨2, .phase⟩, ⟨3, .phase⟩, ⟨4, .phase⟩, ⟨5, .phase⟩, ⟨6, .phase⟩, ⟨7, .phase⟩, ⟨8, .phase⟩, ⟨9, .phase⟩, ⟨10, .phase⟩, ⟨11, .phase⟩, ⟨12, .phase⟩, ⟨13, .phase⟩, ⟨14, .phase⟩, ⟨15, .phase⟩, ⟨16, .phase⟩, ⟨17, .phase⟩, ⟨18, .phase⟩, ⟨19, .phase⟩], none⟩ rfl ?_
              refine wpAnyD_ready (rs := [22]) (by kernel_rfl) (by simp) ?_
              refine AllReadyD.last (o := ⟨none, .store 4 (.tmp 48) (.tmp 46), 0, "ref.go:155", #[⟨21, .data⟩, ⟨19, .data⟩, ⟨8, .chain⟩, ⟨0, .phase⟩, ⟨1, .phase⟩, ⟨2, .phase⟩, ⟨3, .phase⟩, ⟨4, .phase⟩, ⟨5, .phase⟩, ⟨6, .phase⟩, ⟨7, .phase⟩, ⟨8, .phase⟩, ⟨9, .phase⟩, ⟨10, .phase⟩, ⟨11, .phase⟩, ⟨12, .phase⟩, ⟨13, .phase⟩, ⟨14, .phase⟩, ⟨15, .phase⟩, ⟨16, .phase⟩, ⟨17, .phase⟩, ⟨18, .phase⟩, ⟨19, .phase⟩], none⟩) rfl (by kernel_rfl) (fun K hK => ?_)
              go_simp
              refine hK.out _ _ ?_
              clear hK K
              try simp only [Act.put, List.setIfInBounds_toArray, List.set_cons_zero, List.set_cons_succ]
              refine NoPanic.normal ?_
              go_wp2_with fail
              go_meet
              exact ⟨rfl, hid ((HC5.out.below (Below.drew (Below.refl _ _))).set1 _), hid ((Rd.of_below (Below.drew (Below.refl _ _))).trans (grown_setCell _ g 1 _))⟩
            · obtain ⟨Ar, cr, er, lr, CR⟩ := Kd.R_reads HO5.out
              cases er
              have hyl2 := HYL.out
              obtain ⟨ad, rfl, e1, -⟩ := at_T182 CR (m : Int) (by omega) (by omega)
              rw [Int.toNat_natCast] at e1
              have hql : (ix < nxO (fun x : S149 => x.f0) (ys.map toN)) = (ix ≤ (rd_T182 ys m).f0) := by rw [nxO_last ys m hyl2]; exact propext (by omega)
              have hq : bq = decide (ix ≤ (rd_T182 ys m).f0) := by rw [← hbq]; simp only [hql, Bool.false_or]
              obtain ⟨lst, hls⟩ : ∃ q, (rd_T182 ys m).f0 = q := ⟨_, rfl⟩
              rw [hls] at e1 hq
              subst hq
              have hwm : IntKind.u32.wrap (m : Int) = m := by simp [IntKind.wrap, IntKind.bits, IntKind.signed]; omega
              have hml : (m : Int) < (ys.length : Int) := by omega
              clear hbq hql hls HYL hyl2
              refine wp_region_noPanic ?_
              refine wp_region_heldD 22 (S := (fun W => W.cell? ⟨g, 1, none⟩ = some (.bool false) ∧ W.frozen? ⟨g, 1, none⟩ = false ∧ W.cell? ⟨w2.heap.size, 0, none⟩ = some (.int .u32 ix) ∧ W.cell? (ad.add (m * 2)) = some (.int .u32 lst))) (by kernel_rfl) ?hSc1 (fun hHeld => ?goc1)
              case hSc1 => exact ⟨c1, f1, e0, e1⟩
              refine tkD 0 ⟨some 27, .move (.tmp 0), 78, "ref.go:155", #[], none⟩ rfl ?_
              refine tkD 1 ⟨some 28, .move (.tmp 0), 78, "ref.go:155", #[], none⟩ rfl ?_
              refine tkD 2 ⟨some 29, .nilCheck (.tmp 28), 0, "ref.go:155", #[⟨1, .data⟩], none⟩ rfl ?_
              refine tkD 3 ⟨some 30, .fieldAddr 80 (.tmp 29) 1, 0, "ref.go:155", #[⟨2, .data⟩], none⟩ rfl ?_
              refine tkD 4 ⟨some 31, .load 4 (.tmp 30), 4, "ref.go:155", #[⟨3, .data⟩], none⟩ rfl ?_
              refine tkD 5 ⟨some 32, .move (.tmp 31), 4, "ref.go:155", #[⟨4, .data⟩], none⟩ rfl ?_
              refine tkD 6 ⟨some 33, .move (.tmp 5), 47, "ref.go:155", #[⟨5, .guard⟩], some (5, false)⟩ rfl ?_
              refine tkD 7 ⟨some 34, .binOp .gtr 47 (.tmp 33) (.const (.int .u32 0)) 47, 4, "ref.go:155", #[⟨6, .data⟩, ⟨5, .guard⟩], some (5, false)⟩ rfl ?_
              refine tkD 8 ⟨some 35, .move (.tmp 34), 4, "ref.go:155", #[⟨7, .data⟩, ⟨5, .chain⟩, ⟨5, .guard⟩], some (5, false)⟩ rfl ?_
              refine tkD 9 ⟨some 36, .fieldAddr 182 (.tmp 6) 0, 0, "ref.go:155", #[⟨8, .guard⟩], some (8, true)⟩ rfl ?_
              refine tkD 10 ⟨some 37, .load 47 (.tmp 36), 47, "ref.go:155", #[⟨9, .data⟩, ⟨8, .guard⟩], some (8, true)⟩ rfl ?_
              refine tkD 11 ⟨some 38, .move (.tmp 4), 29, "ref.go:155", #[⟨8, .guard⟩], some (8, true)⟩ rfl ?_
              refine tkD 12 ⟨some 39, .move (.tmp 5), 47, "ref.go:155", #[⟨8, .guard⟩], some (8, true)⟩ rfl ?_
              refine tkD 13 ⟨some 40, .binOp .sub 47 (.tmp 39) (.const (.int .u32 1)) 47, 47, "ref.go:155", #[⟨12, .data⟩, ⟨8, .guard⟩], some (8, true)⟩ rfl ?_
              refine tkD 14 ⟨some 41, .indexAddr 29 (.tmp 38) (.tmp 40), 0, "ref.go:155", #[⟨11, .data⟩, ⟨13, .data⟩, ⟨8, .guard⟩], some (8, true)⟩ rfl ?_
              refine tkD 15 ⟨some 42, .fieldAddr 182 (.tmp 41) 0, 0, "ref.go:155", #[⟨14, .data⟩, ⟨8, .guard⟩], some (8, true)⟩ rfl ?_
              refine tkD 16 ⟨some 43, .load 47 (.tmp 42), 47, "ref.go:155", #[⟨15, .data⟩, ⟨8, .guard⟩], some (8, true)⟩ rfl ?_
              refine tkD 17 ⟨some 44, .binOp .leq 47 (.tmp 37) (.tmp 43) 47, 4, "ref.go:155", #[⟨10, .data⟩, ⟨16, .data⟩, ⟨8, .guard⟩], some (8, true)⟩ rfl ?_
              refine tkD 18 ⟨some 45, .pick (.tmp 35) (.tmp 44) (.const (.bool false)), 4, "ref.go:155", #[⟨8, .data⟩, ⟨17, .data⟩, ⟨5, .guard⟩], some (5, false)⟩ rfl ?_
              refine tkD 19 ⟨some 46, .pick (.tmp 32) (.const (.bool true)) (.tmp 45), 4, "ref.go:155", #[⟨5, .data⟩, ⟨18, .data⟩], none⟩ rfl ?_
              refine tkD 20 ⟨some 47, .nilCheck (.tmp 27), 0, "ref.go:155", #[⟨0, .data⟩, ⟨0, .phase⟩, ⟨1, .phase⟩, ⟨2, .phase⟩, ⟨3, .phase⟩, ⟨4, .phase⟩, ⟨5, .phase⟩, ⟨6, .phase⟩, ⟨7, .phase⟩, ⟨8, .phase⟩, ⟨9, .phase⟩, ⟨10, .phase⟩, ⟨11, .phase⟩, ⟨12, .phase⟩, ⟨13, .phase⟩, ⟨14, .phase⟩, ⟨15, .phase⟩, ⟨16, .phase⟩, ⟨17, .phase⟩, ⟨18, .phase⟩, ⟨19, .phase⟩], none⟩ rfl ?_
              refine tkD 21 ⟨some 48, .fieldAddr 80 (.tmp 47) 1, 0, "ref.go:155", #[⟨20, .data⟩, ⟨0, .phase⟩, ⟨1, .phase⟩, ⟨2, .phase⟩, ⟨3, .phase⟩, ⟨4, .phase⟩, ⟨5, .phase⟩, ⟨6, .phase⟩, ⟨7, .phase⟩, ⟨8, .phase⟩, ⟨9, .phase⟩, ⟨10, .phase⟩, ⟨11, .phase⟩, ⟨12, .phase⟩, ⟨13, .phase⟩, ⟨14, .phase⟩, ⟨15, .phase⟩, ⟨16, .phase⟩, ⟨17, .phase⟩, ⟨18, .phase⟩, ⟨19, .phase⟩], none⟩ rfl ?_
              refine wpAnyD_ready (rs := [22]) (by kernel_rfl) (by simp) ?_
              refine AllReadyD.last (o := ⟨none, .store 4 (.tmp 48) (.tmp 46), 0, "ref.go:155", #[⟨21, .data⟩, ⟨19, .data⟩, ⟨8, .chain⟩, ⟨0, .phase⟩, ⟨1, .phase⟩, ⟨2, .phase⟩, ⟨3, .phase⟩, ⟨4, .phase⟩, ⟨5, .phase⟩, ⟨6, .phase⟩, ⟨7, .phase⟩, ⟨8, .phase⟩, ⟨9, .phase⟩, ⟨10, .phase⟩, ⟨11, .phase⟩, ⟨12, .phase⟩, ⟨13, .phase⟩, ⟨14, .phase⟩, ⟨15, .phase⟩, ⟨16, .phase⟩, ⟨17, .phase⟩, ⟨18, .phase⟩, ⟨19, .phase⟩], none⟩) rfl (by kernel_rfl) (fun K hK => ?_)
              go_simp
              refine hK.out _ _ ?_
              clear hK K
              try simp only [Act.put, List.setIfInBounds_toArray, List.set_cons_zero, List.set_cons_succ]
              refine NoPanic.normal ?_
              go_wp2_with fail
              go_meet
              exact ⟨rfl, hid ((HC5.out.below (Below.drew (Below.refl _ _))).set1 _), hid ((Rd.of_below (Below.drew (Below.refl _ _))).trans (grown_setCell _ g 1 _))⟩
        case rest =>
          obtain ⟨rfl, HC6, HR6⟩ := hcut
          have HO6 := hid (Kd.R_step HO5.out (fun k hk hlt3 => HR6.out.block k hlt3 (fun e => by have := Option.some.inj e; omega)))
          have HRw := hid (HR45.out.trans HR6.out)
          have e0 := HR6.out.cell hgx HX5.out.1
          have e1 := HR6.out.cell hgx HX5.out.2
          have hyl2 := HYL.out
          have HJ4 := hid (show (ys.length + 1) * 24 ≤ 140737488355328 by omega)
          have hszw := HRw.out.size
          have hjn' : ((j + 1 : Nat) : Int) ≤ n := by omega
          have hwj : IntKind.u32.wrap ((j : Int) + 1) = ((j + 1 : Nat) : Int) := by simp [IntKind.wrap, IntKind.bits, IntKind.signed]; omega
          have HY2 := hid hyl2
          clear hbq hyl2 HYL
          go_wp2_with (first | (at_builtin; go_loud (refine Kd.R_append k182 (w0 := wc) w.heap.size rfl _ _ 29 182 (.agg #[.int .u32 0, .string ⟨#[]⟩]) 24 rfl Tryz.underlying29 info_rName rfl (by decide) (by decide) (.slice A4 ys.length c4) ys (⟨ix, x⟩ : S182) [.int .u32 ix, .string x] (fun k => w.heap.size ≤ k) (fun _ => False) rfl rfl (k182_mkM _ _ _ (⟨ix, x⟩ : S182)) (fun k hk => hk.elim) (fun k hk => by omega) HO6.out (Below.refl _ _) (by omega) HJ4.out ?_)))
          intro v1 w12 hR1 hB12 hG12 hat12
          have HO12 := hid hR1
          have HC12 := hid (HC6.out.blk (hB12.block g hgw))
          have HR12 := hid (rd_base HRw.out hB12)
          have HF := hid (dl_next mkN_f0 (M := M) (xs := ys.map toN) (nx := nxO (fun x : S149 => x.f0) (ys.map toN)) (r := ns s') (y := ⟨ix, x⟩) (b := b3) (k := m') (by have := HMY.out; rwa [hm'] at this) HST.out.1 (fun h => (HST.out.2 h).1))
          have hj2 : m' = n.toNat - (j + 1) := by omega
          clear hR1 hB12 hG12 hat12 e0 e1
          go_wp2
          go_roundw
          case rel => exact ⟨j + 1, ys ++ [⟨ix, x⟩], s3, bq, by first | go_num | (rw [hwj]), hjn', hid (by rw [List.length_append, HY2.out]; rfl), by omega, by omega, HO12, HC12, hid (fun h => HF.out.1 (HBQ.out.trans h)), hid (fun h => by
            have hb3 : b3 = false := by
              have := HBQ.out.trans h
              cases b3; rfl; cases this
            have := (HST.out.2 hb3).2
            refine ⟨by omega, ?_⟩
            rw [HF.out.2 (HBQ.out.trans h), List.map_append, ← hj2, show ys.map toN ++ [(⟨ix, x⟩ : S182)].map toN = ys.map toN ++ [(⟨ix, x⟩ : S149)] from rfl, nxO_app]), HR12⟩
          case measure => simp [intOf]; omega
      · go_wp2_with fail
        go_ret
        show PostDL k182 182 frN g s.size w M _ _
        rw [HMY.out, show n.toNat - j = 0 by omega, dItems]
        simp only [aheadD, List.append_nil]
        exact ⟨HR.out, ⟨_, rfl, by rw [frN_toN]; exact HO.out⟩, s', rfl, HC.out⟩
end Go.Proofs.YtiohiiekaofkbaaGreatDoor
/- The document's Read: rows, plain; the names as they lie; raw, list by one answer. -/
namespace Go.Proofs.YtiohiiekaofkbaaGreatDoor
set_option linter.unusedVariables false
set_option linter.unusedSimpArgs false
open Go.RowKit Go.Proofs.YtiohiiekaofkbaaGreatDoor.PNamesReads Go.Proofs.YtiohiiekaofkbaaGreatDoorW.PrintWords
structure dNs where
  hm : Bool
  hf : Bool
  hl : Bool
  md : ByteArray
  fs : List S182
  ls : List S86
def dNs.v (x : dNs) : NmV := ⟨x.hm, x.hf, x.hl, x.md, x.fs.map toN, x.ls.map toL⟩
theorem frL_toL (l : List S86) : (l.map toL).map frL = l := by
  rw [List.map_map]
  refine (List.map_congr_left (fun x _ => ?_)).trans (List.map_id l)
  show (⟨x.f0, (x.f1.map toN).map frN⟩ : S86) = x
  rw [frN_toN]
def dBody (x : Int) (V : NmV) (l : List Int) : Option (NmV × List Int) :=
  if x = 0 then match dTxt l with | none => none | some (t, r) => some (⟨true, V.hf, V.hl, t, V.fs, V.ls⟩, r)
  else if x = 1 then match dList mkN l with | none => none | some (xs, r) => some (⟨V.hm, true, V.hl, V.md, xs, V.ls⟩, r)
  else match dList mkL l with | none => none | some (xs, r) => some (⟨V.hm, V.hf, true, V.md, V.fs, xs⟩, r)
def dPart (l : List Int) : Option (ByteArray × List Int) := match numL l with | none => none | some (n, r) => dRaw n r
def dRow (last : Int) (V : NmV) (x : Int) (t : List Int) : Option (NmV × List Int) := match dPart t with
  | none => none
  | some (p, r) => if x ≤ last ∨ 2 < x then none else match dBody x V (ns p) with
    | none => none
    | some (V', q) => if q = [] then some (V', r) else none
def dRows : Nat → Int → NmV → List Int → Option NmV
  | _, _, V, [] => some V
  | 0, _, _, _ :: _ => none
  | k + 1, last, V, x :: t => match dRow last V x t with
    | none => none
    | some (V', r) => dRows k x V' r
def dRead (l : List Int) : Option NmV := dRows l.length (-1) noNm l
theorem dRows_nil (k : Nat) (last : Int) (V : NmV) : dRows k last V [] = some V := by cases k <;> rfl
def DN (NB b0 : Nat) (ok : Nat → Prop) (x : dNs) (w : World) : Prop := ∃ v4 v5, NmC NB x.hm x.hf x.hl x.md v4 v5 w ∧ k182.R 182 w b0 ok v4 x.fs ∧ k86.R 86 w b0 ok v5 x.ls
theorem DN.mono {NB b0 : Nat} {ok ok' : Nat → Prop} {x : dNs} {w : World} (h : DN NB b0 ok x w) (hk : ∀ k, ok k → ok' k) : DN NB b0 ok' x w := by
  obtain ⟨v4, v5, a, b, c⟩ := h
  exact ⟨v4, v5, a, Kd.R_mono b hk, Kd.R_mono c hk⟩
theorem DN.bound {NB b0 : Nat} {ok : Nat → Prop} {x : dNs} {w : World} (h : DN NB b0 ok x w) : DN NB b0 (fun k => ok k ∧ k < w.heap.size) x w := by
  obtain ⟨v4, v5, a, b, c⟩ := h
  exact ⟨v4, v5, a, Kd.R_mono (Kd.R_bound b) (fun k hk => ⟨hk.1, hk.2.2.1⟩), Kd.R_mono (Kd.R_bound c) (fun k hk => ⟨hk.1, hk.2.2.1⟩)⟩
theorem NmC.blk {NB : Nat} {h0 h1 h2 : Bool} {m : ByteArray} {v4 v5 : Value} {w W : World} (h : NmC NB h0 h1 h2 m v4 v5 w) (e : W.heap[NB]? = w.heap[NB]?) : NmC NB h0 h1 h2 m v4 v5 W := by
  have cc : ∀ i, W.cell? ⟨NB, i, none⟩ = w.cell? ⟨NB, i, none⟩ := fun i => World.cell?_of_block (a := ⟨NB, i, none⟩) e
  have ff : ∀ i, W.frozen? ⟨NB, i, none⟩ = w.frozen? ⟨NB, i, none⟩ := fun i => World.frozen?_of_block (a := ⟨NB, i, none⟩) e
  exact ⟨(cc 0).trans h.c0, (cc 1).trans h.c1, (cc 2).trans h.c2, (cc 3).trans h.c3, (cc 4).trans h.c4, (cc 5).trans h.c5, (ff 0).trans h.z0, (ff 1).trans h.z1, (ff 2).trans h.z2, (ff 3).trans h.z3, (ff 4).trans h.z4, (ff 5).trans h.z5⟩
theorem DN.step {NB b0 : Nat} {ok : Nat → Prop} {x : dNs} {w W : World} (h : DN NB b0 ok x w) (hB : W.heap[NB]? = w.heap[NB]?) (hk : ∀ k, ok k → k < w.heap.size → W.heap[k]? = w.heap[k]?) : DN NB b0 ok x W := by
  obtain ⟨v4, v5, a, b, c⟩ := h
  exact ⟨v4, v5, a.blk hB, Kd.R_step b hk, Kd.R_step c hk⟩
theorem DN.lt {NB b0 : Nat} {ok : Nat → Prop} {x : dNs} {w : World} (h : DN NB b0 ok x w) : NB < w.heap.size := by obtain ⟨v4, v5, a, -⟩ := h; exact a.lt
theorem raw2 (g : Nat) (s : ByteArray) (b : Bool) (n : Int) (w : World) (h : RdC g s b w) (hs : s.size ≤ 1000000000) (n0 : 0 ≤ n) (n1 : n ≤ 4294967295) :
    Calls Tryz.prog 18 #[.pointer (some ⟨g, 0, none⟩), .int .u32 n] w (fun e w' => ∃ x s1 b1, e = .returned (.string x) ∧ x.size ≤ s.size ∧ RdC g s1 b1 w' ∧ s1.size ≤ s.size ∧ Rd g w w' ∧ ((b1 = true ∧ (if b then none else dRaw n (ns s)) = none) ∨ (b1 = false ∧ b = false ∧ dRaw n (ns s) = some (x, ns s1)))) := by
  refine (raw_walk2 g s b n w h hs n0 n1).mono ?_
  rintro e w' ⟨hR, hm⟩
  rcases hz : (if b = true then none else dRaw n (ns s)) with _ | ⟨x, r⟩
  · rw [hz] at hm
    obtain ⟨rfl, s1, h1, h2⟩ := hm
    exact ⟨_, s1, true, rfl, Nat.zero_le _, h2, h1, hR, .inl ⟨rfl, rfl⟩⟩
  · rw [hz] at hm
    obtain ⟨rfl, s1, h1, h2⟩ := hm
    have hb : b = false := by cases b; rfl; cases hz
    subst hb
    simp only [Bool.false_eq_true, if_false] at hz
    obtain ⟨a1, a2, -, -, -⟩ := dRaw_rest n0 hz
    have e1 := ns_length s1
    have e2 := ns_length s
    exact ⟨x, s1, false, rfl, by omega, h2, by rw [h1] at e1; omega, hR, .inr ⟨rfl, rfl, by rw [hz, h1]⟩⟩
theorem dItems_rest {α : Type} {mk : Int → List Int → Option (α × List Int)} (hm : ∀ ix l x l', (∀ x ∈ l, 0 ≤ x ∧ x < 256) → mk ix l = some (x, l') → l'.length ≤ l.length ∧ ∀ x ∈ l', 0 ≤ x ∧ x < 256) : ∀ (k : Nat) (nx : Int) (l l' : List Int) (xs : List α), (∀ x ∈ l, 0 ≤ x ∧ x < 256) → dItems mk k nx l = some (xs, l') → l'.length + k ≤ l.length ∧ xs.length = k ∧ ∀ x ∈ l', 0 ≤ x ∧ x < 256 := by
  intro k
  induction k with
  | zero => intro nx l l' xs h8 h; cases h; exact ⟨by omega, rfl, h8⟩
  | succ k ih =>
    intro nx l l' xs h8 h
    rw [dItems] at h
    rcases hn : numL l with _ | ⟨ix, r1⟩
    · rw [hn] at h; cases h
    · rw [hn] at h
      obtain ⟨-, -, hl1, h81⟩ := numL_rest h8 hn
      simp only at h
      rcases hx : mk ix r1 with _ | ⟨x, r2⟩
      · rw [hx] at h; cases h
      · rw [hx] at h
        obtain ⟨hl2, h82⟩ := hm _ _ _ _ h81 hx
        simp only at h
        split at h
        · cases h
        · rcases hr : dItems mk k (ix + 1) r2 with _ | ⟨ys, r3⟩
          · rw [hr] at h; cases h
          · rw [hr] at h
            cases h
            obtain ⟨a, b, c⟩ := ih _ _ _ _ h82 hr
            exact ⟨by omega, by simp [b], c⟩
theorem dList_rest {α : Type} {mk : Int → List Int → Option (α × List Int)} (hm : ∀ ix l x l', (∀ x ∈ l, 0 ≤ x ∧ x < 256) → mk ix l = some (x, l') → l'.length ≤ l.length ∧ ∀ x ∈ l', 0 ≤ x ∧ x < 256) {l l' : List Int} {xs : List α} (h8 : ∀ x ∈ l, 0 ≤ x ∧ x < 256) (h : dList mk l = some (xs, l')) : l'.length + xs.length < l.length ∧ ∀ x ∈ l', 0 ≤ x ∧ x < 256 := by
  unfold dList at h
  rcases hn : numL l with _ | ⟨n, r1⟩
  · rw [hn] at h; cases h
  · rw [hn] at h
    obtain ⟨-, -, hl1, h81⟩ := numL_rest h8 hn
    obtain ⟨a, b, c⟩ := dItems_rest hm _ _ _ _ _ h81 h
    exact ⟨by omega, c⟩
theorem mkN_rest : ∀ ix l (x : S149) l', (∀ x ∈ l, 0 ≤ x ∧ x < 256) → mkN ix l = some (x, l') → l'.length ≤ l.length ∧ ∀ x ∈ l', 0 ≤ x ∧ x < 256 := by
  intro ix l x l' h8 h
  unfold mkN at h
  rcases hd : dTxt l with _ | ⟨t, r⟩
  · rw [hd] at h; cases h
  · rw [hd] at h
    cases h
    have := dTxt_rest h8 hd
    exact ⟨by omega, this.2⟩
theorem list2 (g : Nat) (s : ByteArray) (b : Bool) (w : World) (h : RdC g s b w) (hs : s.size ≤ 1000000) :
    Calls Tryz.prog 21 #[.pointer (some ⟨g, 0, none⟩)] w (fun e w' => ∃ v ys s1 b1, e = .returned v ∧ k182.R 182 w' w.heap.size (fun k => w.heap.size ≤ k) v ys ∧ RdC g s1 b1 w' ∧ s1.size ≤ s.size ∧ Rd g w w' ∧ ((b1 = true ∧ (if b then none else dList mkN (ns s)) = none) ∨ (b1 = false ∧ b = false ∧ dList mkN (ns s) = some (ys.map toN, ns s1)))) := by
  refine (list_dwalk g s b w h hs).mono ?_
  rintro e w' ⟨hR, hm⟩
  rcases hz : (if b = true then none else dList mkN (ns s)) with _ | ⟨xs, r⟩
  · rw [hz] at hm
    obtain ⟨⟨v, ys, rfl, hv⟩, s1, h1, h2⟩ := hm
    exact ⟨v, ys, s1, true, rfl, hv, h2, h1, hR, .inl ⟨rfl, rfl⟩⟩
  · rw [hz] at hm
    obtain ⟨⟨v, rfl, hv⟩, s1, h1, h2⟩ := hm
    have hb : b = false := by cases b; rfl; cases hz
    subst hb
    simp only [Bool.false_eq_true, if_false] at hz
    have hl := (dList_rest mkN_rest (ns_u8 s) hz).1
    have e1 := ns_length s1
    have e2 := ns_length s
    exact ⟨v, xs.map frN, s1, false, rfl, hv, h2, by rw [h1] at e1; omega, hR, .inr ⟨rfl, rfl, by rw [hz, h1, toN_frN]⟩⟩
end Go.Proofs.YtiohiiekaofkbaaGreatDoor
/- The document's Read answers what the bytes tell, as names.Read does. Plain. -/
namespace Go.Proofs.YtiohiiekaofkbaaGreatDoor
set_option linter.unusedVariables false
set_option linter.unusedSimpArgs false
open Go.RowKit Go.Proofs.YtiohiiekaofkbaaGreatDoor.PNamesReads Go.Proofs.YtiohiiekaofkbaaGreatDoorW.PrintWords
theorem vld_txt (s : ByteArray) : vld s = true ↔ Txt (ns s) := by
  unfold vld Txt
  rw [Bool.and_eq_true, beq_iff_eq]
  constructor
  · rintro ⟨a, b⟩; exact Prod.ext b a
  · intro h; rw [h]; exact ⟨rfl, rfl⟩
abbrev U8 (l : List Int) : Prop := ∀ x ∈ l, 0 ≤ x ∧ x < 256
theorem U8.app {a b : List Int} (h : U8 (a ++ b)) : U8 a ∧ U8 b := ⟨fun x hx => h x (by simp [hx]), fun x hx => h x (by simp [hx])⟩
theorem dTxt_put {l r : List Int} {s : ByteArray} (h8 : U8 l) (h : dTxt l = some (s, r)) : ∃ B, l = B ++ r ∧ EncT B s ∧ Txt (ns s) := by
  unfold dTxt at h
  rcases hn : numL l with _ | ⟨n, q⟩
  · rw [hn] at h; cases h
  · rw [hn] at h
    simp only at h
    obtain ⟨N, e, hN⟩ := numL_put h8 hn
    rcases hq : dRaw n q with _ | ⟨x, r2⟩
    · rw [hq] at h; cases h
    · rw [hq] at h
      simp only at h
      split at h
      · rename_i hv
        cases h
        obtain ⟨a1, a2, a3, a4, a5⟩ := dRaw_rest hN.v0 hq
        have hns : ns s = q.take n.toNat := by rw [a5]; exact ns_str (fun z hz => h8 z (by rw [e]; simp [List.mem_of_mem_take hz]))
        refine ⟨N ++ ns s, ?_, ⟨N, by rw [a3]; exact hN, rfl⟩, (vld_txt s).1 hv⟩
        rw [e, hns, a4, List.append_assoc, List.take_append_drop]
      · cases h
theorem dItems_put {α : Type} {mk : Int → List Int → Option (α × List Int)} {Q : List Int → α → Prop} {f0 : α → Int} {Gd : α → Prop} (hm : ∀ ix l x r, U8 l → mk ix l = some (x, r) → ∃ T, l = T ++ r ∧ Q T x ∧ Gd x ∧ f0 x = ix) :
    ∀ (k : Nat) (nx : Int) (l r : List Int) (xs : List α), U8 l → dItems mk k nx l = some (xs, r) → ∃ C, l = C ++ r ∧ EncS (fun B x => ∃ N T, B = N ++ T ∧ Enc N (f0 x) ∧ Q T x) C xs ∧ RiseF f0 nx xs ∧ (∀ x ∈ xs, Gd x) ∧ xs.length = k := by
  intro k
  induction k with
  | zero => intro nx l r xs _ h; cases h; exact ⟨[], rfl, rfl, trivial, fun x hx => (by cases hx), rfl⟩
  | succ k ih =>
    intro nx l r xs h8 h
    rw [dItems] at h
    rcases hn : numL l with _ | ⟨ix, r1⟩
    · rw [hn] at h; cases h
    · rw [hn] at h
      simp only at h
      obtain ⟨N, e, hN⟩ := numL_put h8 hn
      subst e
      rcases hx : mk ix r1 with _ | ⟨x, r2⟩
      · rw [hx] at h; cases h
      · rw [hx] at h
        simp only at h
        obtain ⟨T, e, hT, hg, hf⟩ := hm _ _ _ _ h8.app.2 hx
        subst e
        split at h
        · cases h
        · rename_i hnx
          rcases hr : dItems mk k (ix + 1) r2 with _ | ⟨ys, r3⟩
          · rw [hr] at h; cases h
          · rw [hr] at h
            cases h
            obtain ⟨C, e, hC, hR, hG, hl⟩ := ih _ _ _ _ h8.app.2.app.2 hr
            subst e
            refine ⟨N ++ T ++ C, by simp, ⟨N ++ T, C, rfl, ⟨N, T, rfl, by rw [hf]; exact hN, hT⟩, hC⟩, ⟨by rw [hf]; omega, by rw [hf]; exact hR⟩, ?_, by simp [hl]⟩
            intro y hy
            rcases List.mem_cons.1 hy with rfl | hy
            · exact hg
            · exact hG y hy
theorem dList_put {α : Type} {mk : Int → List Int → Option (α × List Int)} {Q : List Int → α → Prop} {f0 : α → Int} {Gd : α → Prop} (hm : ∀ ix l x r, U8 l → mk ix l = some (x, r) → ∃ T, l = T ++ r ∧ Q T x ∧ Gd x ∧ f0 x = ix) {l r : List Int} {xs : List α} (h8 : U8 l) (h : dList mk l = some (xs, r)) :
    ∃ B, l = B ++ r ∧ (∃ N C, B = N ++ C ∧ Enc N xs.length ∧ EncS (fun B x => ∃ N T, B = N ++ T ∧ Enc N (f0 x) ∧ Q T x) C xs) ∧ RiseF f0 0 xs ∧ ∀ x ∈ xs, Gd x := by
  unfold dList at h
  rcases hn : numL l with _ | ⟨n, q⟩
  · rw [hn] at h; cases h
  · rw [hn] at h
    simp only at h
    obtain ⟨N, e, hN⟩ := numL_put h8 hn
    subst e
    obtain ⟨C, e, hC, hR, hG, hl⟩ := dItems_put hm _ _ _ _ _ h8.app.2 h
    subst e
    have hv := hN.v0
    exact ⟨N ++ C, by simp, ⟨N, C, rfl, by rw [show (xs.length : Int) = n by omega]; exact hN, hC⟩, hR, hG⟩
theorem mkN_put : ∀ ix l (x : S149) r, U8 l → mkN ix l = some (x, r) → ∃ T, l = T ++ r ∧ EncT T x.f1 ∧ GoodN x ∧ x.f0 = ix := by
  intro ix l x r h8 h
  unfold mkN at h
  rcases hd : dTxt l with _ | ⟨t, q⟩
  · rw [hd] at h; cases h
  · rw [hd] at h
    cases h
    obtain ⟨B, e, hB, ht⟩ := dTxt_put h8 hd
    exact ⟨B, e, hB, ht, rfl⟩
theorem dNames_put {l r : List Int} {xs : List S149} (h8 : U8 l) (h : dList mkN l = some (xs, r)) : ∃ B, l = B ++ r ∧ EncNl B xs ∧ GoodNs xs := by
  obtain ⟨B, e, hB, hR, hG⟩ := dList_put (Q := fun T (x : S149) => EncT T x.f1) (f0 := fun x : S149 => x.f0) (Gd := GoodN) mkN_put h8 h
  exact ⟨B, e, hB, hR, hG⟩
theorem mkL_put : ∀ ix l (x : S90) r, U8 l → mkL ix l = some (x, r) → ∃ T, l = T ++ r ∧ EncNl T x.f1 ∧ GoodL x ∧ x.f0 = ix := by
  intro ix l x r h8 h
  unfold mkL at h
  rcases hd : dList mkN l with _ | ⟨t, q⟩
  · rw [hd] at h; cases h
  · rw [hd] at h
    cases h
    obtain ⟨B, e, hB, ht⟩ := dNames_put h8 hd
    exact ⟨B, e, hB, ht, rfl⟩
theorem dLocals_put {l r : List Int} {xs : List S90} (h8 : U8 l) (h : dList mkL l = some (xs, r)) : ∃ B, l = B ++ r ∧ EncLl B xs ∧ GoodLs xs := by
  obtain ⟨B, e, hB, hR, hG⟩ := dList_put (Q := fun T (x : S90) => EncNl T x.f1) (f0 := fun x : S90 => x.f0) (Gd := GoodL) mkL_put h8 h
  exact ⟨B, e, hB, hR, hG⟩
theorem dTxt_read {B : List Int} {s : ByteArray} (hE : EncT B s) (ht : Txt (ns s)) (r : List Int) : dTxt (B ++ r) = some (s, r) := by
  obtain ⟨N, hN, rfl⟩ := hE
  have hl := ns_length s
  unfold dTxt
  rw [List.append_assoc, numL_read hN]
  simp only
  have hd : dRaw s.size (ns s ++ r) = some (s, r) := by
    unfold dRaw
    rw [if_pos (by rw [List.length_append]; omega), Int.toNat_natCast, ← hl, List.take_left, List.drop_left, str_ns]
  rw [hd]
  simp only
  rw [if_pos ((vld_txt s).2 ht)]
theorem dItems_read {α : Type} {mk : Int → List Int → Option (α × List Int)} {Q : List Int → α → Prop} {f0 : α → Int} {Gd : α → Prop} (hm : ∀ (x : α) T r, Q T x → Gd x → mk (f0 x) (T ++ r) = some (x, r)) :
    ∀ (xs : List α) (nx : Int) (C r : List Int), EncS (fun B x => ∃ N T, B = N ++ T ∧ Enc N (f0 x) ∧ Q T x) C xs → RiseF f0 nx xs → (∀ x ∈ xs, Gd x) → dItems mk xs.length nx (C ++ r) = some (xs, r) := by
  intro xs
  induction xs with
  | nil => intro nx C r hS _ _; have : C = [] := hS; subst this; rfl
  | cons x xs ih =>
    intro nx C r hS hR hG
    obtain ⟨B1, B2, rfl, ⟨N, T, rfl, hN, hT⟩, hS2⟩ := hS
    obtain ⟨hR1, hR2⟩ := hR
    rw [List.length_cons, dItems, List.append_assoc, List.append_assoc, numL_read hN]
    simp only
    rw [hm x T _ hT (hG x (by simp))]
    simp only
    rw [if_neg (by omega), ih _ B2 r hS2 hR2 (fun y hy => hG y (by simp [hy]))]
theorem dList_read {α : Type} {mk : Int → List Int → Option (α × List Int)} {Q : List Int → α → Prop} {f0 : α → Int} {Gd : α → Prop} (hm : ∀ (x : α) T r, Q T x → Gd x → mk (f0 x) (T ++ r) = some (x, r)) {xs : List α} {B : List Int} (r : List Int)
    (hB : ∃ N C, B = N ++ C ∧ Enc N xs.length ∧ EncS (fun B x => ∃ N T, B = N ++ T ∧ Enc N (f0 x) ∧ Q T x) C xs) (hR : RiseF f0 0 xs) (hG : ∀ x ∈ xs, Gd x) : dList mk (B ++ r) = some (xs, r) := by
  obtain ⟨N, C, rfl, hN, hC⟩ := hB
  unfold dList
  rw [List.append_assoc, numL_read hN]
  simp only
  rw [Int.toNat_natCast]
  exact dItems_read hm xs 0 C r hC hR hG
theorem mkN_read (x : S149) (T r : List Int) (h : EncT T x.f1) (hg : GoodN x) : mkN x.f0 (T ++ r) = some (x, r) := by
  unfold mkN
  rw [dTxt_read h hg]
theorem dNames_read {xs : List S149} {B : List Int} (r : List Int) (hB : EncNl B xs) (hg : GoodNs xs) : dList mkN (B ++ r) = some (xs, r) :=
  dList_read (Q := fun T (x : S149) => EncT T x.f1) (f0 := fun x : S149 => x.f0) (Gd := GoodN) mkN_read r hB hg.1 hg.2
theorem mkL_read (x : S90) (T r : List Int) (h : EncNl T x.f1) (hg : GoodL x) : mkL x.f0 (T ++ r) = some (x, r) := by
  unfold mkL
  rw [dNames_read r h hg]
theorem dLocals_read {xs : List S90} {B : List Int} (r : List Int) (hB : EncLl B xs) (hg : GoodLs xs) : dList mkL (B ++ r) = some (xs, r) :=
  dList_read (Q := fun T (x : S90) => EncNl T x.f1) (f0 := fun x : S90 => x.f0) (Gd := GoodL) mkL_read r hB hg.1 hg.2
end Go.Proofs.YtiohiiekaofkbaaGreatDoor
/- The document's Read and names.Read answer alike. Plain. -/
namespace Go.Proofs.YtiohiiekaofkbaaGreatDoor
set_option linter.unusedVariables false
set_option linter.unusedSimpArgs false
open Go.RowKit Go.Proofs.YtiohiiekaofkbaaGreatDoor.PNamesReads Go.Proofs.YtiohiiekaofkbaaGreatDoorW.PrintWords
theorem dPart_put {l r : List Int} {p : ByteArray} (h8 : U8 l) (h : dPart l = some (p, r)) : ∃ N, l = N ++ (ns p ++ r) ∧ Enc N (ns p).length := by
  unfold dPart at h
  rcases hn : numL l with _ | ⟨n, q⟩
  · rw [hn] at h; cases h
  · rw [hn] at h
    simp only at h
    obtain ⟨N, e, hN⟩ := numL_put h8 hn
    obtain ⟨a1, a2, a3, a4, a5⟩ := dRaw_rest hN.v0 h
    have hns : ns p = q.take n.toNat := by rw [a5]; exact ns_str (fun z hz => h8 z (by rw [e]; simp [List.mem_of_mem_take hz]))
    exact ⟨N, by rw [e, hns, a4, List.take_append_drop], by rw [ns_length, a3]; exact hN⟩
theorem dPart_read {N C : List Int} (hN : Enc N C.length) (h8 : U8 C) (r : List Int) : dPart (N ++ (C ++ r)) = some (strOfNums C, r) := by
  unfold dPart
  rw [numL_read hN]
  simp only
  unfold dRaw
  rw [if_pos (by rw [List.length_append]; omega), Int.toNat_natCast, List.take_left, List.drop_left]
structure Pre (P : List Int) (last : Int) (V : NmV) : Prop where
  e : NamesE P V
  g : GoodV V
  m : V.hm = true → 0 ≤ last
  f : V.hf = true → 1 ≤ last
  l : V.hl = true → 2 ≤ last
theorem sec_off {i : Int} {b : Bool} {Q : List Int → Prop} {B : List Int} (h : Sec i b Q B) (hb : b = false) : B = [] := by subst hb; simpa [Sec] using h
theorem pre_row {P t r : List Int} {last x : Int} {V V1 : NmV} (h8 : U8 t) (hP : Pre P last V) (hl : -1 ≤ last) (h : dRow last V x t = some (V1, r)) : last < x ∧ ∃ C, t = C ++ r ∧ Pre (P ++ (x :: C)) x V1 := by
  unfold dRow at h
  rcases hp : dPart t with _ | ⟨p, q⟩
  · rw [hp] at h; cases h
  · rw [hp] at h
    simp only at h
    obtain ⟨N, e, hN⟩ := dPart_put h8 hp
    have h8p : U8 (ns p) := ns_u8 p
    split at h
    · cases h
    · rename_i hx
      rcases hb : dBody x V (ns p) with _ | ⟨V', z⟩
      · rw [hb] at h; cases h
      · rw [hb] at h
        simp only at h
        split at h
        · rename_i hz
          cases h
          subst hz
          refine ⟨by omega, N ++ ns p, by rw [e, List.append_assoc], ?_⟩
          obtain ⟨⟨B0, B1, B2, eP, S0, S1, S2⟩, hg, hm, hf, hl2⟩ := hP
          have nl : ∀ {b : Bool} {i : Int}, (b = true → i ≤ last) → last < i → b = false := fun {b i} h1 h2 => by
            cases b
            · rfl
            · have := h1 rfl; omega
          unfold dBody at hb
          rcases (show x = 0 ∨ x = 1 ∨ x = 2 by omega) with rfl | rfl | rfl
          · rw [if_pos rfl] at hb
            rcases hd : dTxt (ns p) with _ | ⟨s, q'⟩
            · rw [hd] at hb; cases hb
            · rw [hd] at hb
              cases hb
              obtain ⟨B, eB, hB, ht⟩ := dTxt_put h8p hd
              rw [List.append_nil] at eB
              have z0 := nl hm (by omega)
              have z1 := nl hf (by omega)
              have z2 := nl hl2 (by omega)
              rw [sec_off S0 z0, sec_off S1 z1, sec_off S2 z2] at eP
              rw [sec_off S1 z1] at S1
              rw [sec_off S2 z2] at S2
              refine ⟨⟨0 :: (N ++ ns p), [], [], by rw [eP]; simp, ⟨N, ns p, rfl, hN, by rw [eB]; exact hB⟩, S1, S2⟩, ⟨.inl rfl, hg.f, hg.l, ht, hg.fs, hg.ls⟩, fun _ => by omega, fun h => ?_, fun h => ?_⟩
              · rw [show V.hf = false from z1] at h; cases h
              · rw [show V.hl = false from z2] at h; cases h
          · rw [if_neg (by decide), if_pos rfl] at hb
            rcases hd : dList mkN (ns p) with _ | ⟨xs, q'⟩
            · rw [hd] at hb; cases hb
            · rw [hd] at hb
              cases hb
              obtain ⟨B, eB, hB, ht⟩ := dNames_put h8p hd
              rw [List.append_nil] at eB
              have z1 := nl hf (by omega)
              have z2 := nl hl2 (by omega)
              rw [sec_off S1 z1, sec_off S2 z2] at eP
              rw [sec_off S2 z2] at S2
              refine ⟨⟨B0, 1 :: (N ++ ns p), [], by rw [eP]; simp, S0, ⟨N, ns p, rfl, hN, by rw [eB]; exact hB⟩, S2⟩, ⟨hg.m, .inl rfl, hg.l, hg.md, ht, hg.ls⟩, fun _ => by omega, fun _ => by omega, fun h => ?_⟩
              rw [show V.hl = false from z2] at h; cases h
          · rw [if_neg (by decide), if_neg (by decide)] at hb
            rcases hd : dList mkL (ns p) with _ | ⟨xs, q'⟩
            · rw [hd] at hb; cases hb
            · rw [hd] at hb
              cases hb
              obtain ⟨B, eB, hB, ht⟩ := dLocals_put h8p hd
              rw [List.append_nil] at eB
              have z2 := nl hl2 (by omega)
              rw [sec_off S2 z2] at eP
              exact ⟨⟨B0, B1, 2 :: (N ++ ns p), by rw [eP]; simp, S0, S1, ⟨N, ns p, rfl, hN, by rw [eB]; exact hB⟩⟩, ⟨hg.m, hg.f, .inl rfl, hg.md, hg.fs, ht⟩, fun _ => by omega, fun _ => by omega, fun _ => by omega⟩
        · cases h
theorem dRows_put : ∀ (k : Nat) (P l : List Int) (last : Int) (V V' : NmV), U8 l → -1 ≤ last → Pre P last V → dRows k last V l = some V' → NamesE (P ++ l) V' ∧ GoodV V' := by
  intro k
  induction k with
  | zero =>
    intro P l last V V' h8 hl hP h
    cases l with
    | nil => rw [dRows_nil] at h; cases h; rw [List.append_nil]; exact ⟨hP.e, hP.g⟩
    | cons x t => cases h
  | succ k ih =>
    intro P l last V V' h8 hl hP h
    cases l with
    | nil => rw [dRows_nil] at h; cases h; rw [List.append_nil]; exact ⟨hP.e, hP.g⟩
    | cons x t =>
      rw [dRows] at h
      rcases hr : dRow last V x t with _ | ⟨V1, r⟩
      · rw [hr] at h; cases h
      · rw [hr] at h
        have h8t : U8 t := fun z hz => h8 z (by simp [hz])
        obtain ⟨hx, C, e, hP1⟩ := pre_row h8t hP hl hr
        subst e
        have := ih (P ++ (x :: C)) r x V1 V' h8t.app.2 (by omega) hP1 h
        simpa using this
theorem good_no : GoodV noNm := ⟨.inr rfl, .inr rfl, .inr rfl, rfl, ⟨trivial, fun x hx => (by cases hx)⟩, ⟨trivial, fun x hx => (by cases hx)⟩⟩
theorem dRead_put {l : List Int} {V : NmV} (h8 : U8 l) (h : dRead l = some V) : NamesE l V ∧ GoodV V := by
  have := dRows_put _ [] l (-1) noNm V h8 (by decide) ⟨⟨[], [], [], rfl, rfl, rfl, rfl⟩, good_no, fun h => (by cases h), fun h => (by cases h), fun h => (by cases h)⟩ h
  simpa using this
theorem row_of {last x : Int} {V V1 : NmV} {N C r : List Int} (hN : Enc N C.length) (h8 : U8 C) (hx : last < x ∧ x ≤ 2) (hb : dBody x V C = some (V1, [])) : dRow last V x (N ++ (C ++ r)) = some (V1, r) := by
  unfold dRow
  rw [dPart_read hN h8]
  simp only
  rw [if_neg (by omega), ns_str h8, hb]
  simp only
  rw [if_pos trivial]
theorem dRead_read {l : List Int} {V : NmV} (h8 : U8 l) (hE : NamesE l V) (hg : GoodV V) : dRead l = some V := by
  obtain ⟨B0, B1, B2, e, S0, S1, S2⟩ := hE
  subst e
  have h80 := h8.app.1
  have h81 := h8.app.2.app.1
  have h82 := h8.app.2.app.2
  have st2 : ∀ (k : Nat) (last : Int), last < 2 → B2.length ≤ k → dRows k last ⟨V.hm, V.hf, false, V.md, V.fs, []⟩ B2 = some V := by
    intro k last hl hk
    cases hh : V.hl
    · rw [sec_off S2 hh, dRows_nil]
      have hz : V.ls = [] := by rcases hg.l with h | h; rw [hh] at h; cases h; exact h
      rw [← hh, ← hz]
    · rw [hh] at S2
      obtain ⟨N, C, rfl, hN, hC⟩ := (show ∃ N C, B2 = (2 : Int) :: (N ++ C) ∧ Enc N C.length ∧ EncLl C V.ls from by simpa [Sec] using S2)
      obtain ⟨k, rfl⟩ : ∃ m, k = m + 1 := ⟨k - 1, by simp at hk; omega⟩
      have hr := row_of (last := last) (x := 2) (V := ⟨V.hm, V.hf, false, V.md, V.fs, []⟩) (V1 := V) (r := []) hN (fun z hz => h82 z (by simp [hz])) ⟨hl, by decide⟩ (by
        unfold dBody
        rw [if_neg (by decide), if_neg (by decide)]
        have := dLocals_read [] hC hg.ls
        rw [List.append_nil] at this
        rw [this, ← hh])
      rw [List.append_nil] at hr
      rw [dRows, hr]
      exact dRows_nil _ _ _
  have st1 : ∀ (k : Nat) (last : Int), last < 1 → (B1 ++ B2).length ≤ k → dRows k last ⟨V.hm, false, false, V.md, [], []⟩ (B1 ++ B2) = some V := by
    intro k last hl hk
    cases hh : V.hf
    · have hz : V.fs = [] := by rcases hg.f with h | h; rw [hh] at h; cases h; exact h
      have := st2 k last (by omega) (by simp at hk; omega)
      rw [hh, hz] at this
      rw [sec_off S1 hh]
      exact this
    · have S1' := S1
      rw [hh] at S1'
      obtain ⟨N, C, rfl, hN, hC⟩ := (show ∃ N C, B1 = (1 : Int) :: (N ++ C) ∧ Enc N C.length ∧ EncNl C V.fs from by simpa [Sec] using S1')
      obtain ⟨k, rfl⟩ : ∃ m, k = m + 1 := ⟨k - 1, by simp at hk; omega⟩
      have hr := row_of (last := last) (x := 1) (V := ⟨V.hm, false, false, V.md, [], []⟩) (V1 := ⟨V.hm, true, false, V.md, V.fs, []⟩) (r := B2) hN (fun z hz => h81 z (by simp [hz])) ⟨hl, by decide⟩ (by
        unfold dBody
        rw [if_neg (by decide), if_pos rfl]
        have := dNames_read [] hC hg.fs
        rw [List.append_nil] at this
        rw [this])
      have h2 := st2 k 1 (by decide) (by simp at hk; omega)
      rw [hh] at h2
      rw [List.cons_append, List.append_assoc, dRows, hr]
      exact h2
  unfold dRead
  cases hh : V.hm
  · have hz : V.md = ⟨#[]⟩ := by rcases hg.m with h | h; rw [hh] at h; cases h; exact h
    have := st1 (B0 ++ (B1 ++ B2)).length (-1) (by decide) (by simp)
    rw [hh, hz] at this
    rw [sec_off S0 hh] at this ⊢
    exact this
  · have S0' := S0
    rw [hh] at S0'
    obtain ⟨N, C, rfl, hN, hC⟩ := (show ∃ N C, B0 = (0 : Int) :: (N ++ C) ∧ Enc N C.length ∧ EncT C V.md from by simpa [Sec] using S0')
    have hr := row_of (last := -1) (x := 0) (V := noNm) (V1 := ⟨true, false, false, V.md, [], []⟩) (r := B1 ++ B2) hN (fun z hz => h80 z (by simp [hz])) ⟨by decide, by decide⟩ (by
      unfold dBody
      rw [if_pos rfl]
      have := dTxt_read hC hg.md []
      rw [List.append_nil] at this
      rw [this]; rfl)
    have h2 := st1 ((N ++ C) ++ (B1 ++ B2)).length 0 (by decide) (by simp; omega)
    rw [hh] at h2
    rw [List.cons_append, List.length_cons, dRows, List.append_assoc, hr]
    rw [List.append_assoc] at h2
    exact h2
theorem read_alike (s : ByteArray) (hs : s.size ≤ 1000000000) : (∀ V p, readM (ns s) = .ok (V, p) → dRead (ns s) = some V) ∧ (∀ e, readM (ns s) = .error e → dRead (ns s) = none) := by
  have h8 : U8 (ns s) := ns_u8 s
  have hl : (ns s).length ≤ 1000000000 := by rw [ns_length]; exact hs
  refine ⟨fun V p h => ?_, fun e h => ?_⟩
  · obtain ⟨hE, hg⟩ := readM_put h8 hl h
    exact dRead_read h8 hE hg
  · rcases hd : dRead (ns s) with _ | V
    · rfl
    · obtain ⟨hE, hg⟩ := dRead_put h8 hd
      obtain ⟨p, hp⟩ := readM_read hl hE hg
      rw [hp] at h; cases h
end Go.Proofs.YtiohiiekaofkbaaGreatDoor
/- append([]byte, s...), s a string, with a word on where the new row lies. -/
namespace Go.Proofs.YtiohiiekaofkbaaGreatDoor.PNamesReads
open Go.RowKit Go.Proofs.YtiohiiekaofkbaaGreatDoorW.PrintWords Go.Lib
section
variable {P : Program} {ops : Array Oper} {rest : List Oper} {o : Oper} {a : Act} {Q : Exit → Act → World → Prop}
theorem append_str_at {w0 W : World} (base : Nat) (hgd : o.guard = none) (s x : Operand) (t u e : TypeId)
    (ho : o.op = .call { callee := .builtin .append, args := #[s, x], argTypes := #[t, u] })
    (ht : P.underlying t = some (.slice e)) (hu : P.underlying u = some .string) (hinfo : (P.info? e).map (fun i => (i.zero, i.size, i.bytes)) = some (some (.int .u8 0), 1, 1))
    (v : Value) (xs : List Int) (y : ByteArray) (hs : a.eval s = v) (hx : a.eval x = .string y)
    (HO : W.ownsRow base e 1 v xs.length (nums .u8 xs)) (HB : Below base w0 W) (hbase : base ≤ W.heap.size) (hl : xs.length + y.size ≤ 140737488355328)
    (h : ∀ v1 w1, w1.ownsRow base e 1 v1 (xs ++ bytesOf y).length (nums .u8 (xs ++ bytesOf y)) → Below base w0 w1 → W.grownBy w1 v.ownBlock → (∀ k, v1.ownBlock = some k → v.ownBlock = some k ∨ W.heap.size ≤ k) → wpList P ops Q rest (a.put o.dst v1) w1) :
    wpList P ops Q (o :: rest) a W := by
  obtain ⟨i0, hi, hzz⟩ := Option.map_eq_some_iff.1 hinfo
  simp only [Prod.mk.injEq] at hzz
  obtain ⟨hz0, hz1, hz2⟩ := hzz
  refine wpList_plain hgd fun K hK => ?_
  have hm : xs.length + y.size ≤ maxLen := by simp only [maxLen]; omega
  obtain ⟨v', w', hr, h2, h3, h4⟩ := run_append_own_string (P := P) W base t u o.type e i0 ht hu hi hz0 hz1 hz2 v xs.length (nums .u8 xs) HO y hm hl hbase
  have key : ∀ k, v'.ownBlock = some k → v.ownBlock = some k ∨ W.heap.size ≤ k := by
    intro k hk
    rcases HO.2 with ⟨rfl, hn⟩ | ⟨g, cap, cur, rfl, hbg, hg, hnc, hcm, hcs, htake⟩
    · rcases Nat.eq_zero_or_pos y.size with h0 | h0
      · rw [h4.2 ⟨rfl, h0⟩] at hk
        cases hk
      · have hr' := run_append_nil_string (P := P) W t u o.type e i0 (.int .u8 0) ht hu hi hz0 y h0 (by omega) (by rw [hz2]; omega)
        rw [hr] at hr'
        injection hr' with e1 e2
        rw [e1] at hk
        simp [Value.ownBlock] at hk
        exact .inr (by omega)
    · by_cases hroom : xs.length + y.size ≤ cap
      · rcases Nat.eq_zero_or_pos cap with hc | hc
        · have hy : y.size = 0 := by omega
          have hx0 : xs.length = 0 := by omega
          have hr' := run_append_room_string (P := P) W t u o.type e i0 ht hu hi hz1 g xs.length cap cur hg y hroom (by have := hcs; simp at this; omega)
          rw [hr] at hr'
          injection hr' with e1 e2
          rw [e1] at hk
          exact .inl hk
        · obtain ⟨w2, hr', _⟩ := run_append_fits_string (P := P) W base t u o.type e i0 ht hu hi hz1 (some ⟨g, 0, none⟩) xs.length cap (nums .u8 xs) HO y hc hroom
          rw [hr] at hr'
          injection hr' with e1 e2
          rw [e1] at hk
          exact .inl hk
      · have holds : ∀ j u, (nums .u8 xs)[j]? = some u → W.cell? ((⟨g, 0, none⟩ : Addr).add j) = some u := HO.cells (g := g) rfl
        have hr' := run_append_grow_string (P := P) W t u o.type e i0 (.int .u8 0) ht hu hi hz0 ⟨g, 0, none⟩ xs.length cap (nums .u8 xs) (by rw [hz1]; simp [nums]) holds y (by omega) (by omega) (by rw [hz2]; exact growslice_fits (by omega) (by omega))
        rw [hr] at hr'
        injection hr' with e1 e2
        rw [e1] at hk
        simp [Value.ownBlock] at hk
        exact .inr (by omega)
  have hl2 : (xs ++ bytesOf y).length = xs.length + y.size := by rw [List.length_append, bytesOf_length]
  have hc : nums .u8 (xs ++ bytesOf y) = nums .u8 xs ++ Lib.strCells y := by
    rw [nums_append]
    congr 1
    simp [nums, bytesOf, Lib.strCells]
  unfold Oper.wp execOp
  simp only [ho, resolve, invoke, builtin, Sem.run_bind, Sem.run_pure, Result.andThen_ok, List.map_toArray, List.map_cons, List.map_nil, hs, hx, hr]
  exact hK _ _ (h v' w' (by rw [hl2, hc]; exact h2) (HB.grown h3 hbase (own_base HO)) h3 key)
end
end Go.Proofs.YtiohiiekaofkbaaGreatDoor.PNamesReads
/- Printed for this claim. -/
namespace Go.Proofs.YtiohiiekaofkbaaGreatDoor.PNamesReads
open Go.RowKit Go.Proofs.YtiohiiekaofkbaaGreatDoorW.PrintWords Go.Proofs.YtiohiiekaofkbaaGreatDoorW.PrintLast Go.Proofs.YtiohiiekaofkbaaGreatDoorW.PrintMore
attribute [local go_sem] max2_int min2_int max_two min_two max_three min_three max_four min_four
set_option linter.unusedVariables false
set_option linter.unusedSimpArgs false
theorem eqA149 (d : Nat) (w : World) (x0 y0 : Int) (x1 y1 : ByteArray) :
    (Op.equalIn (d + 2) 149 (.agg #[.int .u32 x0, .string x1]) (.agg #[.int .u32 y0, .string y1])).run Tryz.prog w = .ok (x0 == y0 && (x1.toList == y1.toList)) w := by
  refine eqA_of Tryz.underlying149 (by kernel_rfl) ?_
  refine eqf_cons (by rfl) (by go_simp; rfl) (by go_simp; rfl) (by go_simp) ?_
  exact eqf_last (by rfl) (by go_simp; rfl) (by go_simp; rfl) (by go_simp)
end Go.Proofs.YtiohiiekaofkbaaGreatDoor.PNamesReads
