/- Texts of this claim, as far as they are used here: J8, L1, L2, T1, T2, T3, L3, L4, L5. -/
import Derived.Test.YtiohiiekaofkbaaGreatDoorZ08
import Derived.Test.YtiohiiekaofkbaaGreatDoorZ05
import Derived.Test.YtiohiiekaofkbaaGreatDoorZ06
import Derived.Test.YtiohiiekaofkbaaGreatDoorZ02
/- Names as they are read from bytes: Read. -/
namespace Go.Proofs.YtiohiiekaofkbaaGreatDoor
set_option linter.unusedVariables false
set_option linter.unusedSimpArgs false
open Go.RowKit Go.Proofs.YtiohiiekaofkbaaGreatDoor.PNamesReads Go.Proofs.YtiohiiekaofkbaaGreatDoorW.PrintWords
theorem ns_length (s : ByteArray) : (ns s).length = s.size := by unfold ns; rw [List.length_map]; exact Array.length_toList
theorem ns_u8 (s : ByteArray) : ∀ x ∈ ns s, 0 ≤ x ∧ x < 256 := by
  intro x hx
  simp only [ns, List.mem_map] at hx
  obtain ⟨y, -, rfl⟩ := hx
  have := y.toNat_lt
  omega
theorem bytes_laid (W : World) (s : ByteArray) (c : Nat) (m : Nat × Nat) : BytesAt (some ⟨W.heap.size, 0, none⟩) (ns s) (W.alloc (.cells (bytesRow s c) 5 m)) := by
  refine .inr ⟨_, rfl, fun j x hj => ?_⟩
  have hj2 : j < s.size := by have := (List.getElem?_eq_some_iff.1 hj).1; rw [ns_length] at this; exact this
  have e : (bytesRow s c)[j]? = some (.int .u8 x) := by
    unfold bytesRow
    rw [Array.getElem?_append_left (by simpa using hj2), Array.getElem?_map]
    simp only [ns, List.getElem?_map] at hj
    rw [← Array.getElem?_toList]
    rcases hq : s.data.toList[j]? with _ | y
    · rw [hq] at hj; cases hj
    · rw [hq] at hj; cases hj; rfl
  have hb := heap_alloc_new W (.cells (bytesRow s c) 5 m)
  have ea : Addr.add ⟨W.heap.size, 0, none⟩ j = ⟨W.heap.size, j, none⟩ := by
    unfold Addr.add
    split
    · rename_i h; rw [h]
    · simp
  rw [ea]
  unfold World.cell?
  dsimp only
  rw [hb]
  simp [e]
theorem NmC.fr {NB : Nat} {P : Nat → Prop} {h0 h1 h2 : Bool} {m : ByteArray} {v4 v5 : Value} {w W : World} (h : NmC NB h0 h1 h2 m v4 v5 w) (hF : Fr P w W) (hn : ¬ P NB) : NmC NB h0 h1 h2 m v4 v5 W := by
  have hlt := h.lt
  have ff : ∀ i, W.frozen? ⟨NB, i, none⟩ = w.frozen? ⟨NB, i, none⟩ := fun i => World.frozen?_of_block (a := ⟨NB, i, none⟩) (hF.block NB hlt hn)
  exact ⟨hF.cell hn h.c0, hF.cell hn h.c1, hF.cell hn h.c2, hF.cell hn h.c3, hF.cell hn h.c4, hF.cell hn h.c5, (ff 0).trans h.z0, (ff 1).trans h.z1, (ff 2).trans h.z2, (ff 3).trans h.z3, (ff 4).trans h.z4, (ff 5).trans h.z5⟩
def PostRead (w : World) (r : Except (Int × Int) (NmV × Int)) (e : Ending) (w' : World) : Prop :=
  match r with
  | .ok (V, _) => ∃ v4 v5, e = .returned (.tuple #[.agg #[.bool V.hm, .bool V.hf, .bool V.hl, .string V.md, v4, v5], .bool true]) ∧ k149.R 149 w' w.heap.size (fun k => w.heap.size ≤ k) v4 V.fs ∧ k90.R 90 w' w.heap.size (fun k => w.heap.size ≤ k) v5 V.ls
  | .error _ => e = .returned (.tuple #[.agg #[.bool false, .bool false, .bool false, .string ⟨#[]⟩, .slice none 0 0, .slice none 0 0], .bool false])
set_option maxRecDepth 100000 in
set_option maxHeartbeats 4000000 in
theorem read_walk (s : ByteArray) (w : World) (hG : Glob w) (hM : GlobM w) (hs : s.size ≤ 1000000000) :
    Calls Tryz.prog 4 #[.string s] w (fun e w' => Below w.heap.size w w' ∧ PostRead w (readM (ns s)) e w') := by
  have hcv : ∀ W : World, (convert 9 72 (.string s)).run Tryz.prog W = .ok (.slice (some ⟨W.heap.size, 0, none⟩) s.size (grownCap W s.size 0 5)) (W.drew.alloc (.cells (bytesRow s (grownCap W s.size 0 5)) 5 ((bytesRow s (grownCap W s.size 0 5)).size, (bytesRow s (grownCap W s.size 0 5)).size + 1))) := fun W => run_bytes_of_string W 9 72 5 s (by kernel_rfl) (by kernel_rfl) (by kernel_rfl)
  have hmf : ∀ (fn : Fn) (first cap : Array Value) (w : World), (Instr.makeFunc fn first cap).run Tryz.prog w = .ok (.func fn first cap) w := fun _ _ _ _ => rfl
  have hgb : 2 < w.heap.size ∧ 3 < w.heap.size ∧ 0 < w.heap.size ∧ 1 < w.heap.size := ⟨cell_lt hG.c0, cell_lt hM.a0, cell_lt hM.s0, cell_lt hM.n0⟩
  have hsz := ns_length s
  have HT := hid (fun U (hU : Below w.heap.size w U) B c (hz : B < U.heap.size) (hA : BytesAt (some ⟨B, 0, none⟩) (ns s) U) (hB : B ≠ w.heap.size + 1 + 1) (hc : s.size ≤ c) (hN : NmC (w.heap.size + 1 + 1) false false false ⟨#[]⟩ (.slice none 0 0) (.slice none 0 0) U) (cS : U.cell? ⟨w.heap.size, 0, none⟩ = some (.string s)) =>
    tryN_walk U (w.heap.size + 1 + 1) w.heap.size w.heap.size ⟨B, 0, none⟩ c (ns s) s (hG.of hU) ⟨still hU hM.a0, still hU hM.a1, still hU hM.s0, still hU hM.s1, still hU hM.n0, still hU hM.n1⟩ (ns_u8 s) (by omega) hsz.symm (by omega) hA hz hB hN (by omega) (by omega) cS)
  rw [hsz] at HT
  have HGB := hid hgb
  clear hgb hG hM hsz
  go_enter Tryz.func4, Tryz.ntmps4
  go_upto_region 2 with (fail)
  obtain ⟨W1, hW1⟩ : ∃ W1, W1 = ((w.alloc (.cells #[.string s] 9)).alloc (.cells #[.bool false, .bool false, .bool false, .string ⟨#[]⟩, .slice none 0 0, .slice none 0 0] 26)).alloc (.cells #[.bool false, .bool false, .bool false, .string ⟨#[]⟩, .slice none 0 0, .slice none 0 0] 26) := ⟨_, rfl⟩
  have HB1 := hid (show Below w.heap.size w W1 by rw [hW1]; exact bel)
  have hz1 : W1.heap.size = w.heap.size + 1 + 1 + 1 := by rw [hW1]; simp
  have cS : W1.cell? ⟨w.heap.size, 0, none⟩ = some (.string s) := by rw [hW1]; go_simp
  have HN1 := hid (show NmC (w.heap.size + 1 + 1) false false false ⟨#[]⟩ (.slice none 0 0) (.slice none 0 0) W1 by rw [hW1]; exact ⟨by go_simp, by go_simp, by go_simp, by go_simp, by go_simp, by go_simp, by go_simp, by go_simp, by go_simp, by go_simp, by go_simp, by go_simp⟩)
  have HR1 := hid (show NmC (w.heap.size + 1) false false false ⟨#[]⟩ (.slice none 0 0) (.slice none 0 0) W1 by rw [hW1]; exact ⟨by go_simp, by go_simp, by go_simp, by go_simp, by go_simp, by go_simp, by go_simp, by go_simp, by go_simp, by go_simp, by go_simp, by go_simp⟩)
  rw [← hW1]
  clear hW1
  have hzz : w.heap.size < W1.heap.size ∧ w.heap.size + 1 < W1.heap.size ∧ w.heap.size + 1 + 1 < W1.heap.size := by omega
  clear hz1
  have HTT := hid (fun (m : Nat × Nat) (cp : Nat) (hc : s.size ≤ cp) => HT.out (W1.alloc (.cells (bytesRow s cp) 5 m)).drew (HB1.out.trans (((Below.drew (Below.refl _ _)).alloc (Nat.le_refl _) _).mono HB1.out.size)) W1.heap.size cp (by show W1.heap.size < (W1.alloc _).heap.size; simp) (show BytesAt _ _ (W1.drew.alloc (.cells (bytesRow s cp) 5 m)) from bytes_laid W1.drew s cp m) (by omega) hc (HN1.out.rd (g := W1.heap.size) (by omega) (Rd.of_below ((Below.drew (Below.refl _ _)).alloc (Nat.le_refl _) _))) (still ((Below.drew (Below.refl _ _)).alloc (Nat.le_refl _) _) cS))
  have HGC := hid (grownCap_ge W1 s.size 0 5)
  have HU1 := hid (fun (m : Nat × Nat) (cp : Nat) => show Below W1.heap.size W1 (W1.alloc (.cells (bytesRow s cp) 5 m)).drew from (Below.drew (Below.refl _ _)).alloc (Nat.le_refl _) _)
  rcases hr : readM (ns s) with e | ⟨V, p⟩
  · have her := readM_er hr
    rw [hr] at HTT
    clear HT
    go_wp2_with (first | (go_at_call 12; (with_reducible refine (HTT.out _ _ HGC.out).mono ?_); rintro e w2 ⟨hF, rfl⟩; have HF := hid hF; have HCZ := hid ((HR1.out.fr (Fr.of_below (P := fun i => i = w.heap.size + 1 + 1) (HU1.out _ _)) (by omega)).fr hF (by omega)); obtain ⟨c0, c1, c2, c3, c4, c5, z0, z1, z2, z3, z4, z5⟩ := HCZ.out))
    have hb2 : Below w.heap.size w w2 := (((Fr.of_below HB1.out).trans (Fr.of_below (HU1.out _ _))).trans HF.out).below w.heap.size (Nat.le_refl _) (fun i hi e => by omega)
    obtain ⟨W9, hW9⟩ : ∃ W9, W9 = (((((w2.setCell ⟨w.heap.size + 1, 0, none⟩ (.bool false)).setCell ⟨w.heap.size + 1, 1, none⟩ (.bool false)).setCell ⟨w.heap.size + 1, 2, none⟩ (.bool false)).setCell ⟨w.heap.size + 1, 3, none⟩ (.string ⟨#[]⟩)).setCell ⟨w.heap.size + 1, 4, none⟩ (.slice none 0 0)).setCell ⟨w.heap.size + 1, 5, none⟩ (.slice none 0 0) := ⟨_, rfl⟩
    have hb9 : Below w.heap.size w W9 := by rw [hW9]; exact (((((hb2.setCell (p := ⟨w.heap.size + 1, 0, none⟩) (by simp) _).setCell (p := ⟨w.heap.size + 1, 1, none⟩) (by simp) _).setCell (p := ⟨w.heap.size + 1, 2, none⟩) (by simp) _).setCell (p := ⟨w.heap.size + 1, 3, none⟩) (by simp) _).setCell (p := ⟨w.heap.size + 1, 4, none⟩) (by simp) _).setCell (p := ⟨w.heap.size + 1, 5, none⟩) (by simp) _
    obtain ⟨t0, t1, t2, t3, t4, t5, -, -, -, -, -, -⟩ := (show NmC (w.heap.size + 1) false false false ⟨#[]⟩ (.slice none 0 0) (.slice none 0 0) W9 by rw [hW9]; exact (((((HCZ.out.set0 _).set1 _).set2 _).set3 _).set4 _).set5 _)
    rw [← hW9]
    refine bodyPost_ret (v := .tuple #[.agg #[.bool false, .bool false, .bool false, .string ⟨#[]⟩, .slice none 0 0, .slice none 0 0], .bool false]) ?_ rfl ⟨hb9, ?_⟩
    · simp [results, Tryz.results4, go_sem, t0, t1, t2, t3, t4, t5]
    · rw [hr]; exact rfl
  · rw [hr] at HTT
    clear HT
    go_wp2_with (first | (go_at_call 12; (with_reducible refine (HTT.out _ _ HGC.out).mono ?_); rintro e w2 ⟨hF, rfl, v4, v5, hc, h4, h5⟩; have HF := hid hF; have HCZ := hid ((HR1.out.fr (Fr.of_below (P := fun i => i = w.heap.size + 1 + 1) (HU1.out _ _)) (by omega)).fr hF (by omega)); obtain ⟨c0, c1, c2, c3, c4, c5, z0, z1, z2, z3, z4, z5⟩ := HCZ.out; have H4 := hid (Kd.R_mono (ok' := fun k => W1.heap.size < k) h4 (fun k hk => Nat.lt_of_le_of_lt (Nat.le_trans (HU1.out _ _).size (Nat.le_trans (Nat.le_succ _) (Nat.le_succ _))) hk)); have H5 := hid (Kd.R_mono (ok' := fun k => W1.heap.size < k) h5 (fun k hk => Nat.lt_of_le_of_lt (Nat.le_trans (HU1.out _ _).size (Nat.le_trans (Nat.le_succ _) (Nat.le_succ _))) hk)); obtain ⟨A4, c4', rfl⟩ := Kd.R_slice h4; obtain ⟨A5, c5', rfl⟩ := Kd.R_slice h5; obtain ⟨d0, d1, d2, d3, d4, d5, -, -, -, -, -, -⟩ := hc; clear h4 h5))
    have hb2 : Below w.heap.size w w2 := (((Fr.of_below HB1.out).trans (Fr.of_below (HU1.out _ _))).trans HF.out).below w.heap.size (Nat.le_refl _) (fun i hi e => by omega)
    obtain ⟨W9, hW9⟩ : ∃ W9, W9 = (((((w2.setCell ⟨w.heap.size + 1, 0, none⟩ (.bool V.hm)).setCell ⟨w.heap.size + 1, 1, none⟩ (.bool V.hf)).setCell ⟨w.heap.size + 1, 2, none⟩ (.bool V.hl)).setCell ⟨w.heap.size + 1, 3, none⟩ (.string V.md)).setCell ⟨w.heap.size + 1, 4, none⟩ (.slice A4 V.fs.length c4')).setCell ⟨w.heap.size + 1, 5, none⟩ (.slice A5 V.ls.length c5') := ⟨_, rfl⟩
    have hb9 : Below w.heap.size w W9 := by rw [hW9]; exact (((((hb2.setCell (p := ⟨w.heap.size + 1, 0, none⟩) (by simp) _).setCell (p := ⟨w.heap.size + 1, 1, none⟩) (by simp) _).setCell (p := ⟨w.heap.size + 1, 2, none⟩) (by simp) _).setCell (p := ⟨w.heap.size + 1, 3, none⟩) (by simp) _).setCell (p := ⟨w.heap.size + 1, 4, none⟩) (by simp) _).setCell (p := ⟨w.heap.size + 1, 5, none⟩) (by simp) _
    obtain ⟨t0, t1, t2, t3, t4, t5, -, -, -, -, -, -⟩ := (show NmC (w.heap.size + 1) V.hm V.hf V.hl V.md (.slice A4 V.fs.length c4') (.slice A5 V.ls.length c5') W9 by rw [hW9]; exact (((((HCZ.out.set0 _).set1 _).set2 _).set3 _).set4 _).set5 _)
    have hblk : ∀ k, k ≠ w.heap.size + 1 → W9.heap[k]? = w2.heap[k]? := by
      intro k hk
      rw [hW9, heap_setCell_other _ _ _ _ hk, heap_setCell_other _ _ _ _ hk, heap_setCell_other _ _ _ _ hk, heap_setCell_other _ _ _ _ hk, heap_setCell_other _ _ _ _ hk, heap_setCell_other _ _ _ _ hk]
    have h4 : k149.R 149 W9 w.heap.size (fun k => w.heap.size ≤ k) (.slice A4 V.fs.length c4') V.fs := Kd.R_mono (Kd.R_step H4.out (fun k hk hlt => hblk k (by omega))) (fun k hk => by omega)
    have h5 : k90.R 90 W9 w.heap.size (fun k => w.heap.size ≤ k) (.slice A5 V.ls.length c5') V.ls := Kd.R_mono (Kd.R_step H5.out (fun k hk hlt => hblk k (by omega))) (fun k hk => by omega)
    rw [← hW9]
    refine bodyPost_ret (v := .tuple #[.agg #[.bool V.hm, .bool V.hf, .bool V.hl, .string V.md, .slice A4 V.fs.length c4', .slice A5 V.ls.length c5'], .bool true]) ?_ rfl ⟨hb9, ?_⟩
    · simp [results, Tryz.results4, go_sem, t0, t1, t2, t3, t4, t5]
    · rw [hr]; exact ⟨_, _, rfl, h4, h5⟩
end Go.Proofs.YtiohiiekaofkbaaGreatDoor
/- The document's reader: its methods num, raw, name. -/
namespace Go.Proofs.YtiohiiekaofkbaaGreatDoor
set_option linter.unusedVariables false
set_option linter.unusedSimpArgs false
open Go.RowKit Go.Proofs.YtiohiiekaofkbaaGreatDoor.PNamesReads Go.Proofs.YtiohiiekaofkbaaGreatDoorW.PrintWords
structure RdC (g : Nat) (s : ByteArray) (b : Bool) (w : World) : Prop where
  c0 : w.cell? ⟨g, 0, none⟩ = some (.string s)
  c1 : w.cell? ⟨g, 1, none⟩ = some (.bool b)
  f0 : w.frozen? ⟨g, 0, none⟩ = false
  f1 : w.frozen? ⟨g, 1, none⟩ = false
theorem RdC.lt {g : Nat} {s : ByteArray} {b : Bool} {w : World} (h : RdC g s b w) : g < w.heap.size := cell_lt h.c0
theorem RdC.blk {g : Nat} {s : ByteArray} {b : Bool} {w W : World} (h : RdC g s b w) (e : W.heap[g]? = w.heap[g]?) : RdC g s b W := by
  have cc : ∀ i, W.cell? ⟨g, i, none⟩ = w.cell? ⟨g, i, none⟩ := fun i => World.cell?_of_block (a := ⟨g, i, none⟩) e
  have ff : ∀ i, W.frozen? ⟨g, i, none⟩ = w.frozen? ⟨g, i, none⟩ := fun i => World.frozen?_of_block (a := ⟨g, i, none⟩) e
  exact ⟨(cc 0).trans h.c0, (cc 1).trans h.c1, (ff 0).trans h.f0, (ff 1).trans h.f1⟩
theorem RdC.below {g : Nat} {s : ByteArray} {b : Bool} {w W : World} (h : RdC g s b w) (hb : Below w.heap.size w W) : RdC g s b W := h.blk (hb.block g h.lt)
theorem RdC.rd {g g' : Nat} {s : ByteArray} {b : Bool} {w W : World} (h : RdC g s b w) (hne : g ≠ g') (hR : Rd g' w W) : RdC g s b W := h.blk (hR.block g h.lt (fun e => hne (Option.some.inj e)))
theorem RdC.set0 {g : Nat} {s : ByteArray} {b : Bool} {w : World} (h : RdC g s b w) (s' : ByteArray) : RdC g s' b (w.setCell ⟨g, 0, none⟩ (.string s')) := by
  obtain ⟨c0, c1, f0, f1⟩ := h
  exact ⟨by go_simp, by go_simp, by go_simp, by go_simp⟩
theorem RdC.set1 {g : Nat} {s : ByteArray} {b : Bool} {w : World} (h : RdC g s b w) (b' : Bool) : RdC g s b' (w.setCell ⟨g, 1, none⟩ (.bool b')) := by
  obtain ⟨c0, c1, f0, f1⟩ := h
  exact ⟨by go_simp, by go_simp, by go_simp, by go_simp⟩
def PostD {α : Type} (g n : Nat) (w : World) (ok : α → Ending → World → Prop) (no : Ending → World → Prop) (r : Option (α × List Int)) (e : Ending) (w' : World) : Prop :=
  Rd g w w' ∧ match r with
  | some (x, l) => ok x e w' ∧ ∃ s', ns s' = l ∧ RdC g s' false w'
  | none => no e w' ∧ ∃ s', s'.size ≤ n ∧ RdC g s' true w'
theorem ns_extract0 (s : ByteArray) (k : Nat) : ns (s.extract 0 k) = (ns s).take k := by
  have hd : (s.extract 0 k).data = s.data.extract 0 k := by
    rw [ByteArray.data_extract]
  simp only [ns]
  rw [hd, Array.toList_extract]
  simp [List.extract, List.map_take]
theorem u_num (s : ByteArray) : ∃ rv rn re : Int, dobbyref01_U.f 10 (ns (s.extract 0 (min s.size 5))) 32 = some (rv, rn, re) ∧ (re = 0 → 0 ≤ rv ∧ rv ≤ 4294967295 ∧ 0 ≤ rn ∧ rn ≤ s.size ∧ numL (ns s) = some (rv, (ns s).drop rn.toNat)) ∧ (re ≠ 0 → numL (ns s) = none) := by
  have hl := ns_length s
  have h8 := ns_u8 s
  have ht : ns (s.extract 0 (min s.size 5)) = (ns s).take 5 := by
    rw [ns_extract0]
    rcases Nat.le_total s.size 5 with q | q
    · rw [Nat.min_eq_left q, List.take_of_length_le (by omega), List.take_of_length_le (by omega)]
    · rw [Nat.min_eq_right q]
  rw [ht]
  have hU := u_some ((ns s).take 5) (fun x hx => h8 x (List.mem_of_mem_take hx)) (by rw [List.length_take]; omega)
  have hc := cut_take 5 (ns s)
  rcases h1 : cut 5 ((ns s).take 5) with _ | ⟨N, r⟩
  · rw [h1] at hU hc
    obtain ⟨n, e, he, hf⟩ := hU
    refine ⟨0, n, e, hf, fun h => absurd h he, fun _ => ?_⟩
    rcases h2 : cut 5 (ns s) with _ | ⟨M, q⟩
    · unfold numL; rw [h2]
    · rw [h2] at hc; cases hc
  · rw [h1] at hU hc
    rcases h2 : cut 5 (ns s) with _ | ⟨M, q⟩
    · rw [h2] at hc; cases hc
    · rw [h2] at hc
      have e : N = M := by simpa using hc
      subst e
      obtain ⟨a, b, c⟩ := cut_dig 5 _ _ _ h8 h2
      have hn : numL (ns s) = if 4294967296 ≤ val N then none else some (val N, q) := by unfold numL; rw [h2]
      have hq : q = (ns s).drop N.length := by rw [a]; simp
      have hv := (val_lt N).1
      simp only at hU
      split at hU
      · rename_i hbig
        obtain ⟨n, e, he, hf⟩ := hU
        exact ⟨0, n, e, hf, fun h => absurd h he, fun _ => by rw [hn, if_pos hbig]⟩
      · rename_i hsm
        refine ⟨val N, N.length, 0, hU, fun _ => ⟨hv, by omega, by omega, ?_, by rw [hn, if_neg hsm, hq]; simp⟩, fun h => absurd rfl h⟩
        rw [← hl, a, List.length_append]; omega
theorem bytesC (w : World) (ad : Addr) (l : List Int) (hl : l.length ≤ 1000000) (h : BytesAt (some ad) l w) : Kd.C (Kd.int .u8) w (some ad) l.length l := by
  refine ⟨rfl, ?_, fun _ => ⟨ad, rfl, ?_⟩⟩
  · omega
  · intro j x hj
    rcases h with q | ⟨ad', e, q⟩
    · rw [q] at hj; cases hj
    · cases e
      refine ⟨[.int .u8 x], rfl, rfl, fun r u hu => ?_⟩
      have : r = 0 := by
        rcases r with _ | r
        · rfl
        · cases hu
      subst this
      cases hu
      simpa [Kd.int, Kd.scalar] using q j x hj
end Go.Proofs.YtiohiiekaofkbaaGreatDoor
/- The document's reader: num. -/
namespace Go.Proofs.YtiohiiekaofkbaaGreatDoor
set_option linter.unusedVariables false
set_option linter.unusedSimpArgs false
open Go.RowKit Go.Proofs.YtiohiiekaofkbaaGreatDoor.PNamesReads Go.Proofs.YtiohiiekaofkbaaGreatDoorW.PrintWords
theorem keepD {g : Nat} {v : Value} {w W W' : World} (h : W.cell? ⟨g, 0, none⟩ = some v ∧ Below w.heap.size w W ∧ w.heap.size ≤ W.heap.size) (hb : Below W.heap.size W W') : W'.cell? ⟨g, 0, none⟩ = some v ∧ Below w.heap.size w W' ∧ w.heap.size ≤ W'.heap.size :=
  ⟨still hb h.1, h.2.1.trans (hb.mono h.2.2), Nat.le_trans h.2.2 hb.size⟩
def PostNum (g : Nat) (w : World) (r : Option (Int × List Int)) (n : Nat) : Ending → World → Prop := PostD g n w (fun v e _ => e = .returned (.int .u32 v)) (fun e _ => e = .returned (.int .u32 0)) r
set_option maxRecDepth 100000 in
set_option maxHeartbeats 4000000 in
theorem num_walk (g : Nat) (s : ByteArray) (b : Bool) (w : World) (h : RdC g s b w) (hs : s.size ≤ 1000000000) :
    Calls Tryz.prog 19 #[.pointer (some ⟨g, 0, none⟩)] w (PostNum g w (if b then none else numL (ns s)) s.size) := by
  obtain ⟨rv, rn, re, hU, hy, hno⟩ := u_num s
  obtain ⟨t, ht⟩ : ∃ t, s.extract 0 (min s.size 5) = t := ⟨_, rfl⟩
  rw [ht] at hU
  obtain ⟨M, hM⟩ : ∃ M, min s.size 5 = M := ⟨_, rfl⟩
  rw [hM] at ht
  have hts : t.size ≤ 5 := by rw [← ht]; simp [ByteArray.size_extract]; omega
  have hm : (if 5 < (s.size : Int) then 5 else (s.size : Int)) = (M : Int) := by split <;> omega
  have hm2 : (M : Int) ≤ (s.size : Int) := by omega
  have hcv : ∀ W : World, (convert 9 72 (.string t)).run Tryz.prog W = .ok (.slice (some ⟨W.heap.size, 0, none⟩) t.size (grownCap W t.size 0 5)) (W.drew.alloc (.cells (bytesRow t (grownCap W t.size 0 5)) 5 ((bytesRow t (grownCap W t.size 0 5)).size, (bytesRow t (grownCap W t.size 0 5)).size + 1))) := fun W => run_bytes_of_string W 9 72 5 t (by kernel_rfl) (by kernel_rfl) (by kernel_rfl)
  have HU := hid (fun (W : World) (B : Nat) (c : Nat) (hB : BytesAt (some ⟨B, 0, none⟩) (ns t) W) (hc : t.size ≤ c) => show Calls Tryz.prog 50 #[.slice (some ⟨B, 0, none⟩) t.size c, .int .i64 32] W (fun e w' => e = .returned (.tuple #[.int .u64 rv, .int .i64 rn, .int .i64 re]) ∧ Below W.heap.size W w') from by
    have hl := ns_length t
    have := dobbyref01_U.calls 10 (some ⟨B, 0, none⟩) c (ns t) 32 rv rn re W (bytesC W _ _ (by omega) hB) (by omega) hU
    rw [hl] at this
    exact this.mono (fun e w' q => ⟨q.1, q.2.below⟩))
  have HLD := hid (fun (W : World) (c : Nat) (m : Nat × Nat) => bytes_laid W t c m)
  have HY := hid hy
  have HNO := hid hno
  have HH := hid h
  have HTT := hid ht
  obtain ⟨c0, c1, f0, f1⟩ := h
  have S0 : w.cell? ⟨g, 0, none⟩ = some (.string s) ∧ Below w.heap.size w w ∧ w.heap.size ≤ w.heap.size := ⟨c0, Below.refl _ _, Nat.le_refl _⟩
  clear hU hy hno
  go_enter Tryz.func19, Tryz.ntmps19
  go_upto_region 1 with (fail)
  clear c0 c1 f0 f1
  go_cut [3, 4, 5] (fun s3 s4 s5 wx => s3 = .int .u64 rv ∧ s4 = .int .i64 rn ∧ s5 = .int .i64 re ∧ Hid (Below w.heap.size w wx))
  case first =>
    refine wp_region_noPanic ?_
    refine wp_region_held_drew (S := (fun W => W.cell? ⟨g, 0, none⟩ = some (.string s) ∧ Below w.heap.size w W ∧ w.heap.size ≤ W.heap.size)) (by kernel_rfl) ?hSa1 (fun hHeld => ?goa1)
    case hSa1 => exact keepD S0 (Below.drew (Below.refl _ _))
    refine tk 0 ⟨some 7, .move (.tmp 0), 78, "ref.go:121", #[], none⟩ rfl ?_
    refine tk 1 ⟨some 8, .nilCheck (.tmp 7), 0, "ref.go:121", #[⟨0, .data⟩], none⟩ rfl ?_
    refine tk 2 ⟨some 9, .fieldAddr 80 (.tmp 8) 0, 0, "ref.go:121", #[⟨1, .data⟩], none⟩ rfl ?_
    refine tk 3 ⟨some 10, .load 9 (.tmp 9), 9, "ref.go:121", #[⟨2, .data⟩], none⟩ rfl ?_
    refine tk 4 ⟨some 11, .move (.tmp 0), 78, "ref.go:121", #[], none⟩ rfl ?_
    refine tk 5 ⟨some 12, .nilCheck (.tmp 11), 0, "ref.go:121", #[⟨4, .data⟩], none⟩ rfl ?_
    refine tk 6 ⟨some 13, .fieldAddr 80 (.tmp 12) 0, 0, "ref.go:121", #[⟨5, .data⟩], none⟩ rfl ?_
    refine tk 7 ⟨some 14, .load 9 (.tmp 13), 9, "ref.go:121", #[⟨6, .data⟩], none⟩ rfl ?_
    refine tk 8 ⟨some 15, .call { callee := .builtin Go.Builtin.len, args := #[.tmp 14], argTypes := #[9] }, 3, "ref.go:121", #[⟨7, .data⟩], none⟩ rfl ?_
    refine wpAnyH_take (i := 9) (oi := ⟨some 16, .call { callee := .builtin Go.Builtin.min, args := #[.tmp 15, .const (.int .i64 5)], argTypes := #[3, 3] }, 3, "ref.go:121", #[⟨8, .data⟩], none⟩) (v := .int .i64 (M : Int)) rfl (by kernel_rfl) (by kernel_rfl) (by kernel_rfl) (fun _ _ _ h => h) (Or.inl ⟨by rfl, ?hya11⟩) (by assumption) ?resta11
    case hya11 => (intro w hSw; (try dsimp only at hSw); go_simp; try rw [hm])
    simp only [Act.put, List.setIfInBounds_toArray, List.set_cons_zero, List.set_cons_succ]
    refine wpAnyH_take (i := 10) (oi := ⟨some 17, .slice 9 (.tmp 10) none (some (.tmp 16)) none, 9, "ref.go:121", #[⟨3, .data⟩, ⟨9, .data⟩], none⟩) (v := .string t) rfl (by kernel_rfl) (by kernel_rfl) (by kernel_rfl) (fun _ _ _ h => h) (Or.inl ⟨by rfl, ?hya12⟩) (by assumption) ?resta12
    case hya12 => (intro w hSw; (try dsimp only at hSw); go_simp; try (rw [if_pos ⟨by omega, hm2⟩]; simp only [Int.toNat_natCast, ht]))
    simp only [Act.put, List.setIfInBounds_toArray, List.set_cons_zero, List.set_cons_succ]
    refine wpAnyH_ready (rs := [11]) (by kernel_rfl) (by simp) ?_
    refine AllReadyH.cons (o := ⟨some 18, .convert 9 72 (.tmp 17), 72, "ref.go:121", #[⟨10, .data⟩], none⟩) rfl (fun K hK => ?_) AllReadyH.nil
    go_simp
    refine hK.out _ _ ?_ (fun hHeld => ?_)
    · (try dsimp only); exact keepD hHeld bel
    clear hK K
    try simp only [Act.put, List.setIfInBounds_toArray, List.set_cons_zero, List.set_cons_succ]
    refine wpAnyH_ready (rs := [12]) (by kernel_rfl) (by simp) ?_
    refine AllReadyH.cons (o := ⟨some 19, .call { callee := .value (.func 50), args := #[.tmp 18, .const (.int .i64 32)], argTypes := #[72, 3] }, 179, "ref.go:121", #[⟨11, .data⟩], none⟩) rfl (fun K hK => ?_) AllReadyH.nil
    go_simp
    go_at_call 50; (with_reducible refine (HU.out _ _ _ ?hB ?hC).mono ?hM); (case hB => exact HLD.out _ _ _); (case hC => exact grownCap_ge _ _ _ _); rintro e w3 ⟨rfl, hb1⟩
    refine hK.out _ _ ?_ (fun hHeld => ?_)
    · (try dsimp only); exact keepD hHeld hb1
    clear hK K
    try simp only [Act.put, List.setIfInBounds_toArray, List.set_cons_zero, List.set_cons_succ]
    refine tk 13 ⟨some 6, .move (.tmp 19), 179, "ref.go:121", #[⟨12, .data⟩], none⟩ rfl ?_
    refine tk 14 ⟨some 20, .extract (.tmp 6) 0, 166, "ref.go:121", #[⟨13, .data⟩], none⟩ rfl ?_
    refine tk 15 ⟨some 21, .extract (.tmp 6) 1, 3, "ref.go:121", #[⟨13, .data⟩, { on := 17, ground := .gcOnly Go.Departure.lateStores }], none⟩ rfl ?_
    refine tk 16 ⟨some 22, .extract (.tmp 6) 2, 3, "ref.go:121", #[⟨13, .data⟩, { on := 18, ground := .gcOnly Go.Departure.lateStores }], none⟩ rfl ?_
    refine tk 17 ⟨some 3, .assign (.tmp 20), 166, "ref.go:121", #[⟨14, .data⟩, ⟨12, .chain⟩, ⟨0, .phase⟩, ⟨1, .phase⟩, ⟨2, .phase⟩, ⟨3, .phase⟩, ⟨4, .phase⟩, ⟨5, .phase⟩, ⟨6, .phase⟩, ⟨7, .phase⟩, ⟨8, .phase⟩, ⟨9, .phase⟩, ⟨10, .phase⟩, ⟨11, .phase⟩, ⟨12, .phase⟩, ⟨13, .phase⟩, ⟨14, .phase⟩, { on := 15, ground := .textOnly Go.Departure.lateStores }, { on := 16, ground := .textOnly Go.Departure.lateStores }], none⟩ rfl ?_
    refine tk 18 ⟨some 4, .assign (.tmp 21), 3, "ref.go:121", #[⟨15, .data⟩, ⟨17, .chain⟩, ⟨0, .phase⟩, ⟨1, .phase⟩, ⟨2, .phase⟩, ⟨3, .phase⟩, ⟨4, .phase⟩, ⟨5, .phase⟩, ⟨6, .phase⟩, ⟨7, .phase⟩, ⟨8, .phase⟩, ⟨9, .phase⟩, ⟨10, .phase⟩, ⟨11, .phase⟩, ⟨12, .phase⟩, ⟨13, .phase⟩, ⟨14, .phase⟩, ⟨15, .phase⟩, { on := 16, ground := .textOnly Go.Departure.lateStores }, ⟨17, .phase⟩], none⟩ rfl ?_
    refine tk 19 ⟨some 5, .assign (.tmp 22), 3, "ref.go:121", #[⟨16, .data⟩, ⟨18, .chain⟩, ⟨0, .phase⟩, ⟨1, .phase⟩, ⟨2, .phase⟩, ⟨3, .phase⟩, ⟨4, .phase⟩, ⟨5, .phase⟩, ⟨6, .phase⟩, ⟨7, .phase⟩, ⟨8, .phase⟩, ⟨9, .phase⟩, ⟨10, .phase⟩, ⟨11, .phase⟩, ⟨12, .phase⟩, ⟨13, .phase⟩, ⟨14, .phase⟩, ⟨15, .phase⟩, ⟨16, .phase⟩, ⟨17, .phase⟩, ⟨18, .phase⟩], none⟩ rfl ?_
    refine wpAnyH_done (by kernel_rfl) ?_ _
    refine NoPanic.normal ?_
    go_wp2_with fail
    go_meet
    exact ⟨rfl, rfl, rfl, hid hHeld.2.1⟩
  case rest =>
    obtain ⟨rfl, rfl, rfl, KB⟩ := hcut
    have HRC := hid (HH.out.below KB.out)
    obtain ⟨c0, c1, f0, f1⟩ := HRC.out
    by_cases he : re = 0
    · obtain ⟨v0, v1, n0, n1, hN⟩ := HY.out he
      have HN := hid hN
      subst he
      clear hN
      cases b with
      | true =>
        go_wp2_with fail
        refine bodyPost_ret (v := .int .u32 0) (by simp [results, Tryz.results19, go_sem]) rfl ?_
        exact ⟨(Rd.of_below KB.out).trans (grown_setCell wc g 1 _), rfl, s, Nat.le_refl _, HRC.out.set1 true⟩
      | false =>
        have hsl : (0 : Int) ≤ rn ∧ rn ≤ (s.size : Int) := ⟨n0, n1⟩
        go_wp2_with fail
        refine bodyPost_ret (v := .int .u32 rv) (by simp [results, Tryz.results19, go_sem]) rfl ?_
        show PostNum g w (numL (ns s)) _ _ _
        rw [HN.out]
        exact ⟨(Rd.of_below KB.out).trans (grown_setCell wc g 0 _), rfl, _, ns_extract s _ (by omega), HRC.out.set0 _⟩
    · have HN := hid (HNO.out he)
      cases b
      all_goals
        go_wp2_with fail
        refine bodyPost_ret (v := .int .u32 0) (by simp [results, Tryz.results19, go_sem]) rfl ?_
        have HP : PostNum g w none s.size (.returned (.int .u32 0)) (wc.setCell ⟨g, 1, none⟩ (.bool true)) := ⟨(Rd.of_below KB.out).trans (grown_setCell wc g 1 _), rfl, s, Nat.le_refl _, HRC.out.set1 true⟩
        first | exact HP | (have e := HN.out; rw [e]; exact HP) | (simp only [HN.out]; exact HP) | (simp [HN.out]; exact HP)
end Go.Proofs.YtiohiiekaofkbaaGreatDoor
/- Texts as they are read. Plain. -/
namespace Go.Proofs.YtiohiiekaofkbaaGreatDoor
set_option linter.unusedVariables false
set_option linter.unusedSimpArgs false
open Go.RowKit
def Txt (L : List Int) : Prop := need L = (0, true)
theorem txt_nil : Txt [] := rfl
theorem sgnG_whole {m lo hi T : Int} : ∀ (L : List Int) (n : Int), n ≤ m + 1 → sgnG m lo hi n L = (T, 0, true) → T = m + 1 ∧ m + 1 ≤ n + L.length ∧ (∀ j : Nat, n + j ≤ m + 1 → sgnG m lo hi n (L.take j) = (n + j, m + 1 - (n + j), true)) ∧ ∀ B, sgnG m lo hi n (L ++ B) = (T, 0, true) := by
  intro L
  induction L with
  | nil =>
    intro n hn h
    simp only [sgnG, Prod.mk.injEq] at h
    obtain ⟨rfl, h, -⟩ := h
    refine ⟨by omega, by simp; omega, fun j hj => ?_, fun B => ?_⟩
    · have : j = 0 := by omega
      subst this
      simp [sgnG]
    · cases B with
      | nil => simp [sgnG]; omega
      | cons y B => simp only [List.nil_append, sgnG]; rw [if_pos (by omega), h]
  | cons x t ih =>
    intro n hn h
    simp only [sgnG] at h
    split at h
    · rename_i h1
      simp only [Prod.mk.injEq] at h
      obtain ⟨rfl, h, -⟩ := h
      refine ⟨by omega, by simp only [List.length_cons]; omega, fun j hj => ?_, fun B => ?_⟩
      · have : j = 0 := by omega
        subst this
        simp [sgnG]
      · simp only [List.cons_append, sgnG]; rw [if_pos h1, h]
    · rename_i h1
      split at h
      · cases h
      · rename_i h2
        obtain ⟨a, b, c, d⟩ := ih (n + 1) (by omega) h
        refine ⟨a, by simp only [List.length_cons]; omega, fun j hj => ?_, fun B => ?_⟩
        · cases j with
          | zero => simp [sgnG]
          | succ j =>
            rw [List.take_succ_cons]
            simp only [sgnG]
            rw [if_neg h1, if_neg h2, c j (by omega), show n + 1 + (j : Int) = n + ((j + 1 : Nat) : Int) by omega]
        · simp only [List.cons_append, sgnG]; rw [if_neg h1, if_neg h2, d B]
theorem sgnR_whole {L : List Int} {T : Int} (h : sgnR L = (T, 0, true)) : 1 ≤ T ∧ T ≤ L.length ∧ (∀ j : Nat, 1 ≤ j → (j : Int) ≤ T → sgnR (L.take j) = ((j : Int), T - (j : Int), true)) ∧ ∀ B, sgnR (L ++ B) = (T, 0, true) := by
  cases L with
  | nil => simp [sgnR] at h
  | cons b t =>
    have hl := leadR_le b
    simp only [sgnR] at h
    split at h
    · rename_i hb
      obtain ⟨a, b', c, d⟩ := sgnG_whole t 1 (by omega) h
      refine ⟨by omega, by simp only [List.length_cons]; omega, fun j j1 jT => ?_, fun B => ?_⟩
      · obtain ⟨i, rfl⟩ : ∃ i, j = i + 1 := ⟨j - 1, by omega⟩
        rw [List.take_succ_cons]
        simp only [sgnR]
        rw [if_pos hb, c i (by omega), a, show 1 + (i : Int) = ((i + 1 : Nat) : Int) by omega]
      · simp only [List.cons_append, sgnR]; rw [if_pos hb, d B]
    · cases h
theorem needF_fuel : ∀ (f g : Nat) (l : List Int), l.length ≤ f → l.length ≤ g → needF f l = needF g l := by
  intro f
  induction f with
  | zero =>
    intro g l h1 h2
    have : l = [] := List.length_eq_zero_iff.1 (by omega)
    subst this
    cases g with
    | zero => rfl
    | succ g => simp [needF]
  | succ f ih =>
    intro g l h1 h2
    cases g with
    | zero =>
      have : l = [] := List.length_eq_zero_iff.1 (by omega)
      subst this
      simp [needF]
    | succ g =>
      simp only [needF]
      split
      · rfl
      · rename_i hl
        split
        · rfl
        · rename_i hs
          have hok : (sgnR l).2.2 = true := by
            cases hq : (sgnR l).2.2
            · exact absurd (.inl hq) hs
            · rfl
          have := sgnR_le l hok
          exact ih g _ (by rw [List.length_drop]; omega) (by rw [List.length_drop]; omega)
theorem txt_sign {L : List Int} (h : Txt L) (hn : L ≠ []) : ∃ T : Nat, sgnR L = ((T : Int), 0, true) ∧ 1 ≤ T ∧ T ≤ L.length ∧ Txt (L.drop T) := by
  unfold Txt need at h
  obtain ⟨k, hk⟩ : ∃ k, L.length = k + 1 := ⟨L.length - 1, by have := List.length_pos_iff.2 hn; omega⟩
  rw [hk] at h
  simp only [needF] at h
  rw [if_neg hn] at h
  split at h
  · rename_i hs
    simp only [Prod.mk.injEq] at h
    rcases hs with hs | hs
    · rw [h.2] at hs; cases hs
    · omega
  · rename_i hs
    have hok : (sgnR L).2.2 = true := by
      cases hq : (sgnR L).2.2
      · exact absurd (.inl hq) hs
      · rfl
    have hle := sgnR_le L hok
    have h0 : (sgnR L).2.1 = 0 := by
      have : ¬ 0 < (sgnR L).2.1 := fun q => hs (.inr q)
      omega
    refine ⟨(sgnR L).1.toNat, ?_, by omega, by omega, ?_⟩
    · rw [show (((sgnR L).1.toNat : Nat) : Int) = (sgnR L).1 by omega, ← h0, ← hok]
    · unfold Txt need
      rw [needF_fuel _ k _ (Nat.le_refl _) (by rw [List.length_drop]; omega)]
      exact h
theorem txt_step {L : List Int} {T : Nat} (h : sgnR L = ((T : Int), 0, true)) (h1 : 1 ≤ T) : need L = need (L.drop T) := by
  have hn : L ≠ [] := by rintro rfl; simp [sgnR] at h
  obtain ⟨k, hk⟩ : ∃ k, L.length = k + 1 := ⟨L.length - 1, by have := List.length_pos_iff.2 hn; omega⟩
  unfold need
  rw [hk]
  simp only [needF]
  rw [if_neg hn, h]
  simp only
  rw [if_neg (by simp)]
  exact needF_fuel _ _ _ (by rw [List.length_drop]; omega) (Nat.le_refl _)
theorem txt_app : ∀ (n : Nat) (A B : List Int), A.length ≤ n → Txt A → need (A ++ B) = need B := by
  intro n
  induction n with
  | zero =>
    intro A B hl h
    have : A = [] := List.length_eq_zero_iff.1 (by omega)
    subst this
    rfl
  | succ n ih =>
    intro A B hl h
    by_cases hn : A = []
    · subst hn; rfl
    · obtain ⟨T, hs, h1, hT, hd⟩ := txt_sign h hn
      rw [txt_step ((sgnR_whole hs).2.2.2 B) h1, List.drop_append_of_le_length hT]
      exact ih _ B (by rw [List.length_drop]; omega) hd
theorem txt_take {L : List Int} {T j : Nat} (h : sgnR L = ((T : Int), 0, true)) (j1 : 1 ≤ j) (jT : j ≤ T) (hT : T ≤ L.length) : need (L.take j) = ((T : Int) - j, true) := by
  have hj := (sgnR_whole h).2.2.1 j j1 (by omega)
  have hlen : (L.take j).length = j := by rw [List.length_take]; omega
  have hn : L.take j ≠ [] := by intro e; rw [e] at hlen; simp at hlen; omega
  obtain ⟨k, hk⟩ : ∃ k, j = k + 1 := ⟨j - 1, by omega⟩
  unfold need
  rw [hlen]
  conv => lhs; rw [hk]
  rw [← hk]
  conv => lhs; arg 1; rw [hk]
  simp only [needF]
  rw [if_neg hn, hj]
  simp only
  by_cases hq : j = T
  · rw [if_neg (by simp; omega), hq]
    have : (L.take T).drop ((T : Int)).toNat = [] := by
      rw [List.drop_eq_nil_iff, List.length_take]; omega
    rw [this]
    cases k <;> simp [needF]
  · rw [if_pos (.inr (by omega))]
theorem nmM_put {l : List Int} {lim p1 : Int} (hlim : 0 ≤ lim) (p0 : 0 ≤ p1) : ∀ (k : Nat) (b q q' : Int), p1 ≤ b → b ≤ q → (k = 0 → b = q) → q ≤ lim → q ≤ l.length → Txt (Seg l p1 b) → nmM l lim k b q = .ok q' → q' = q + k ∧ Txt (Seg l p1 q') ∧ q' ≤ lim ∧ q' ≤ l.length := by
  intro k
  induction k with
  | zero =>
    intro b q q' hb hq hk hl1 hl2 ht h
    simp only [nmM, Except.ok.injEq] at h
    subst h
    rw [hk rfl] at ht
    exact ⟨by omega, ht, hl1, hl2⟩
  | succ k ih =>
    intro b q q' hb hq hk hl1 hl2 ht h
    rw [nmM] at h
    rcases hx : nextR l q lim with s | x
    · rw [hx] at h; cases h
    · rw [hx] at h
      simp only at h
      obtain ⟨hx1, hx2, hx3⟩ := next_ok2 hx
      rw [rest_in hlim] at hx2
      split at h
      · rename_i hc
        obtain ⟨hc1, hc2⟩ := hc
        have hcur : (l.drop b.toNat).take (q + 1 - b).toNat = Seg l b (q + 1) := rfl
        rw [hcur] at hc1 hc2 h
        have hge : 0 ≤ (need (Seg l b (q + 1))).1 := by
          unfold need
          generalize (Seg l b (q + 1)).length = f
          generalize Seg l b (q + 1) = L
          clear hcur hc1 hc2 h
          induction f generalizing L with
          | zero => simp [needF]
          | succ f ihf =>
            simp only [needF]
            split
            · simp
            · split
              · exact (sgnR_bd L).2.2.2.1
              · exact ihf _
        have hb' : (if (need (Seg l b (q + 1))).1 = 0 then q + 1 else b) ≤ q + 1 := by split <;> omega
        have := ih (if (need (Seg l b (q + 1))).1 = 0 then q + 1 else b) (q + 1) q' (by split <;> omega) hb' (fun e => by subst e; rw [if_pos (by omega)]) (by omega) (by omega) (by
          split
          · rename_i hz
            have e : Seg l p1 (q + 1) = Seg l p1 b ++ Seg l b (q + 1) := (seg_app p0 hb (by omega)).symm
            unfold Txt
            rw [e, txt_app _ _ _ (Nat.le_refl _) ht]
            exact Prod.ext hz hc1
          · exact ht) h
        refine ⟨by omega, this.2⟩
      · cases h
theorem nmM_read {l : List Int} {lim E : Int} (hE : E ≤ lim) (hE2 : E ≤ l.length) : ∀ (k : Nat) (b q : Int), 0 ≤ b → b ≤ q → E = q + k → Txt (Seg l b E) → (∀ T : Nat, sgnR (Seg l b E) = ((T : Int), 0, true) → q < b + T) → nmM l lim k b q = .ok E := by
  intro k
  induction k with
  | zero => intro b q _ _ e _ _; rw [nmM, e]; simp
  | succ k ih =>
    intro b q b0 hbq e ht hs
    have hqE : q < E := by omega
    have hx1 : l[q.toNat]? = some l[q.toNat] := List.getElem?_eq_getElem (by omega)
    have hx : nextR l q lim = .ok l[q.toNat] := by unfold nextR; rw [if_neg (by unfold rest; split <;> omega), hx1]
    have hlen := seg_len (l := l) b0 (show b ≤ E by omega) hE2
    have hne : Seg l b E ≠ [] := by intro q; rw [q] at hlen; simp at hlen; omega
    obtain ⟨T, hT, h1, hTl, hd⟩ := txt_sign ht hne
    have hq := hs T hT
    have hcur : (l.drop b.toNat).take (q + 1 - b).toNat = (Seg l b E).take (q + 1 - b).toNat := by
      unfold Seg; rw [List.take_take]; congr 1; omega
    have hn := txt_take hT (j := (q + 1 - b).toNat) (by omega) (by omega) hTl
    rw [nmM, hx]
    simp only
    rw [hcur, hn]
    simp only
    rw [if_pos ⟨trivial, by omega⟩]
    by_cases hz : (T : Int) - ((q + 1 - b).toNat : Nat) = 0
    · rw [if_pos hz]
      have hdr : (Seg l b E).drop T = Seg l (q + 1) E := by
        unfold Seg
        rw [List.drop_take, List.drop_drop, show b.toNat + T = (q + 1).toNat by omega, show (E - b).toNat - T = (E - (q + 1)).toNat by omega]
      rw [hdr] at hd
      refine ih (q + 1) (q + 1) (by omega) (by omega) (by omega) hd (fun T2 h2 => ?_)
      have := (sgnR_whole h2).1
      omega
    · rw [if_neg hz]
      exact ih b (q + 1) b0 (by omega) (by omega) ht (fun T2 h2 => by rw [hT] at h2; injection h2 with h2; omega)
end Go.Proofs.YtiohiiekaofkbaaGreatDoor
/- Names as they are read: the bytes tell them. Plain. -/
namespace Go.Proofs.YtiohiiekaofkbaaGreatDoor
set_option linter.unusedVariables false
set_option linter.unusedSimpArgs false
open Go.RowKit Go.Proofs.YtiohiiekaofkbaaGreatDoor.PNamesReads Go.Proofs.YtiohiiekaofkbaaGreatDoorW.PrintWords
def EncT (B : List Int) (s : ByteArray) : Prop := ∃ N, Enc N s.size ∧ B = N ++ ns s
def EncN (B : List Int) (x : S149) : Prop := ∃ N T, B = N ++ T ∧ Enc N x.f0 ∧ EncT T x.f1
def EncS {α : Type} (P : List Int → α → Prop) : List Int → List α → Prop
  | B, [] => B = []
  | B, x :: xs => ∃ B1 B2, B = B1 ++ B2 ∧ P B1 x ∧ EncS P B2 xs
def EncNl (B : List Int) (xs : List S149) : Prop := ∃ N C, B = N ++ C ∧ Enc N xs.length ∧ EncS EncN C xs
def EncL (B : List Int) (x : S90) : Prop := ∃ N C, B = N ++ C ∧ Enc N x.f0 ∧ EncNl C x.f1
def EncLl (B : List Int) (xs : List S90) : Prop := ∃ N C, B = N ++ C ∧ Enc N xs.length ∧ EncS EncL C xs
def RiseF {α : Type} (f0 : α → Int) : Int → List α → Prop
  | _, [] => True
  | nx, x :: xs => nx ≤ f0 x ∧ RiseF f0 (f0 x + 1) xs
def GoodN (x : S149) : Prop := Txt (ns x.f1)
def GoodNs (xs : List S149) : Prop := RiseF (fun x : S149 => x.f0) 0 xs ∧ ∀ x ∈ xs, GoodN x
def GoodL (x : S90) : Prop := GoodNs x.f1
def GoodLs (xs : List S90) : Prop := RiseF (fun x : S90 => x.f0) 0 xs ∧ ∀ x ∈ xs, GoodL x
structure GoodV (V : NmV) : Prop where
  m : V.hm = true ∨ V.md = ⟨#[]⟩
  f : V.hf = true ∨ V.fs = []
  l : V.hl = true ∨ V.ls = []
  md : Txt (ns V.md)
  fs : GoodNs V.fs
  ls : GoodLs V.ls
def Sec (i : Int) (has : Bool) (Q : List Int → Prop) (B : List Int) : Prop := if has then ∃ N C, B = i :: (N ++ C) ∧ Enc N C.length ∧ Q C else B = []
def NamesE (B : List Int) (V : NmV) : Prop := ∃ B0 B1 B2, B = B0 ++ (B1 ++ B2) ∧ Sec 0 V.hm (fun C => EncT C V.md) B0 ∧ Sec 1 V.hf (fun C => EncNl C V.fs) B1 ∧ Sec 2 V.hl (fun C => EncLl C V.ls) B2
theorem str_len2 (L : List Int) : (strOfNums L).size = L.length := by simp [strOfNums, ByteArray.size]
theorem seg_mem {l : List Int} {p q x : Int} (h : x ∈ Seg l p q) : x ∈ l := List.mem_of_mem_drop (List.mem_of_mem_take h)
section
variable {l : List Int} {lim : Int}
theorem nameM_put (h8 : ∀ x ∈ l, 0 ≤ x ∧ x < 256) (hlim : 0 ≤ lim) {a b p p' : Int} {s : List Int} (p0 : 0 ≤ p) (h : nameM a b l p lim = .ok (s, p')) :
    EncT (Seg l p p') (strOfNums s) ∧ Txt (ns (strOfNums s)) ∧ p < p' ∧ p' ≤ lim ∧ p' ≤ l.length := by
  rw [nameM] at h
  rcases hu : uM (rgL 1 1 a b) l lim 5 0 p with e | ⟨n, p1⟩
  · rw [hu] at h; cases h
  · rw [hu] at h
    simp only at h
    obtain ⟨hE, h1, h2, h3, -⟩ := uM_enc h8 hlim p0 hu
    rcases hm : nmM l lim n.toNat p1 p1 with e | q
    · rw [hm] at h; cases h
    · rw [hm] at h
      simp only [Except.ok.injEq, Prod.mk.injEq] at h
      obtain ⟨rfl, rfl⟩ := h
      obtain ⟨e, ht, g1, g2⟩ := nmM_put hlim (by omega) n.toNat p1 p1 q (Int.le_refl _) (Int.le_refl _) (fun _ => rfl) h2 h3 (by rw [seg_nil]; exact txt_nil) hm
      have hv0 := hE.v0
      have hS : (l.drop p1.toNat).take (q - p1).toNat = Seg l p1 q := rfl
      rw [hS]
      have hns : ns (strOfNums (Seg l p1 q)) = Seg l p1 q := ns_str (fun x hx => h8 x (seg_mem hx))
      have hsl := seg_len (l := l) (show 0 ≤ p1 by omega) (show p1 ≤ q by omega) g2
      refine ⟨⟨Seg l p p1, ?_, ?_⟩, by rw [hns]; exact ht, by omega, g1, g2⟩
      · rw [str_len2]
        have : ((Seg l p1 q).length : Int) = n := by omega
        rw [this]; exact hE
      · rw [hns, seg_app p0 (by omega) (by omega)]
theorem rdN_put (h8 : ∀ x ∈ l, 0 ≤ x ∧ x < 256) (hlim : 0 ≤ lim) : ∀ ix a b p x p', 0 ≤ p → rdN l lim ix a b p = .ok (x, p') → p ≤ p' ∧ p' ≤ lim ∧ p' ≤ l.length ∧ x.f0 = ix ∧ GoodN x ∧ ∀ N, Enc N ix → EncN (N ++ Seg l p p') x := by
  intro ix a b p x p' p0 h
  rw [rdN] at h
  rcases hn : nameM a b l p lim with e | ⟨t, q⟩
  · rw [hn] at h; cases h
  · rw [hn] at h
    simp only [Except.ok.injEq, Prod.mk.injEq] at h
    obtain ⟨rfl, rfl⟩ := h
    obtain ⟨a1, a2, a3, a4, a5⟩ := nameM_put h8 hlim p0 hn
    exact ⟨by omega, a4, a5, rfl, a2, fun N hN => ⟨N, _, rfl, hN, a1⟩⟩
theorem rgX_in {nx mn r lo hi : Int} (h : (lo, hi) ∈ rgX nx mn r) : lo = nx := by
  unfold rgX at h
  split at h
  · simp at h; exact h.1
  · cases h
theorem riM_put {α : Type} {rd : Int → Int → Int → Int → Except (Int × Int) (α × Int)} {P : List Int → α → Prop} {f0 : α → Int} {Gd : α → Prop} (h8 : ∀ x ∈ l, 0 ≤ x ∧ x < 256) (hlim : 0 ≤ lim)
    (hrd : ∀ ix a b p x p', 0 ≤ p → rd ix a b p = .ok (x, p') → p ≤ p' ∧ p' ≤ lim ∧ p' ≤ l.length ∧ f0 x = ix ∧ Gd x ∧ ∀ N, Enc N ix → P (N ++ Seg l p p') x) (a b : Int) :
    ∀ (m : Nat) (nx p : Int) (xs : List α) (p' : Int), 0 ≤ p → p ≤ lim → p ≤ l.length → riM rd a b l lim m nx p = .ok (xs, p') → xs.length = m ∧ p ≤ p' ∧ p' ≤ lim ∧ p' ≤ l.length ∧ EncS P (Seg l p p') xs ∧ RiseF f0 nx xs ∧ ∀ x ∈ xs, Gd x := by
  intro m
  induction m with
  | zero =>
    intro nx p xs p' p0 pl pn h
    simp only [riM, Except.ok.injEq, Prod.mk.injEq] at h
    obtain ⟨rfl, rfl⟩ := h
    exact ⟨rfl, Int.le_refl _, pl, pn, seg_nil _ _, trivial, fun x hx => by cases hx⟩
  | succ m ih =>
    intro nx p xs p' p0 pl pn h
    rw [riM] at h
    rcases hu : uM (rgX nx (1 + (tmMin 2 m + a))) l lim 5 0 p with e | ⟨ix, p1⟩
    · rw [hu] at h; cases h
    · rw [hu] at h
      simp only at h
      obtain ⟨hE, h1, h2, h3, lo, hi, hm, hlo, hhi⟩ := uM_enc h8 hlim p0 hu
      rcases hr : rd ix (tmMin 2 m + a) (andMax (tmMax 1099511627776 m) b) p1 with e | ⟨x, p2⟩
      · rw [hr] at h; cases h
      · rw [hr] at h
        simp only at h
        obtain ⟨r1, r2, r3, r4, r5, r6⟩ := hrd _ _ _ _ _ _ (show 0 ≤ p1 by omega) hr
        rcases hs : riM rd a b l lim m (ix + 1) p2 with e | ⟨ys, p3⟩
        · rw [hs] at h; cases h
        · rw [hs] at h
          simp only [Except.ok.injEq, Prod.mk.injEq] at h
          obtain ⟨rfl, rfl⟩ := h
          obtain ⟨s1, s2, s3, s4, s5, s6, s7⟩ := ih (ix + 1) p2 ys p3 (by omega) r2 r3 hs
          refine ⟨by simp [s1], by omega, s3, s4, ⟨Seg l p p2, Seg l p2 p3, (seg_app p0 (by omega) s2).symm, ?_, s5⟩, ⟨?_, by rw [r4]; exact s6⟩, ?_⟩
          · rw [← seg_app p0 (show p ≤ p1 by omega) r1]; exact r6 _ hE
          · rw [r4, ← rgX_in hm]; exact hlo
          · intro y hy
            rcases List.mem_cons.1 hy with rfl | hy
            · exact r5
            · exact s7 y hy
theorem liM_put {α : Type} {rd : Int → Int → Int → Int → Except (Int × Int) (α × Int)} {P : List Int → α → Prop} {f0 : α → Int} {Gd : α → Prop} (h8 : ∀ x ∈ l, 0 ≤ x ∧ x < 256) (hlim : 0 ≤ lim)
    (hrd : ∀ ix a b p x p', 0 ≤ p → rd ix a b p = .ok (x, p') → p ≤ p' ∧ p' ≤ lim ∧ p' ≤ l.length ∧ f0 x = ix ∧ Gd x ∧ ∀ N, Enc N ix → P (N ++ Seg l p p') x) {a b p p' : Int} {xs : List α} (p0 : 0 ≤ p) (h : liM rd a b l p lim = .ok (xs, p')) :
    (∃ N C, Seg l p p' = N ++ C ∧ Enc N xs.length ∧ EncS P C xs) ∧ p ≤ p' ∧ p' ≤ lim ∧ p' ≤ l.length ∧ RiseF f0 0 xs ∧ ∀ x ∈ xs, Gd x := by
  rw [liM] at h
  rcases hu : uM (rgL 2 1099511627776 a b) l lim 5 0 p with e | ⟨n, p1⟩
  · rw [hu] at h; cases h
  · rw [hu] at h
    simp only at h
    obtain ⟨hE, h1, h2, h3, -⟩ := uM_enc h8 hlim p0 hu
    obtain ⟨s1, s2, s3, s4, s5, s6, s7⟩ := riM_put h8 hlim hrd a b n.toNat 0 p1 xs p' (by omega) h2 h3 h
    have := hE.v0
    refine ⟨⟨Seg l p p1, Seg l p1 p', (seg_app p0 (by omega) s2).symm, ?_, s5⟩, by omega, s3, s4, s6, s7⟩
    have e : (xs.length : Int) = n := by omega
    rw [e]; exact hE
theorem rdL_put (h8 : ∀ x ∈ l, 0 ≤ x ∧ x < 256) (hlim : 0 ≤ lim) : ∀ ix a b p x p', 0 ≤ p → rdL l lim ix a b p = .ok (x, p') → p ≤ p' ∧ p' ≤ lim ∧ p' ≤ l.length ∧ x.f0 = ix ∧ GoodL x ∧ ∀ N, Enc N ix → EncL (N ++ Seg l p p') x := by
  intro ix a b p x p' p0 h
  rw [rdL] at h
  rcases hn : liM (rdN l lim) a b l p lim with e | ⟨t, q⟩
  · rw [hn] at h; cases h
  · rw [hn] at h
    simp only [Except.ok.injEq, Prod.mk.injEq] at h
    obtain ⟨rfl, rfl⟩ := h
    obtain ⟨a1, a2, a3, a4, a5, a6⟩ := liM_put h8 hlim (rdN_put h8 hlim) p0 hn
    exact ⟨a2, a3, a4, rfl, ⟨a5, a6⟩, fun N hN => ⟨N, _, rfl, hN, a1⟩⟩
theorem rgSz_in {r n lo hi : Int} (r0 : 0 ≤ r) (h : (lo, hi) ∈ rgSz r) (h1 : lo ≤ n) (h2 : n ≤ hi) : 1 ≤ n ∧ n ≤ r := by
  simp only [rgSz, List.mem_singleton, Prod.mk.injEq] at h
  obtain ⟨rfl, rfl⟩ := h
  have hn : ¬ szNone 1099511627776 r := by unfold szNone; omega
  unfold szL at h1
  unfold szH at h2
  rw [if_neg hn] at h1 h2
  have hlow : szLow 1 1099511627776 r = 1 := by unfold szLow; rw [if_pos (.inr (Int.le_refl _))]
  have hhigh : szHigh 1099511627776 0 r ≤ r := by unfold szHigh; split <;> omega
  rw [hlow] at h1 h2
  unfold wiL at h1
  unfold wiH at h2
  split at h1
  · rename_i hc; rw [if_pos hc] at h2; omega
  · rename_i hc; rw [if_neg hc] at h2; omega
structure Upto (last : Int) (V : NmV) (p : Int) : Prop where
  bytes : NamesE (Seg l 0 p) V
  good : GoodV V
  n0 : last < 0 → V.hm = false ∧ V.md = ⟨#[]⟩
  n1 : last < 1 → V.hf = false ∧ V.fs = []
  n2 : last < 2 → V.hl = false ∧ V.ls = []
theorem sec_no {i : Int} {b : Bool} {Q : List Int → Prop} {B : List Int} (h : Sec i b Q B) (hb : b = false) : B = [] := by subst hb; simpa [Sec] using h
theorem rowM_put (h8 : ∀ x ∈ l, 0 ≤ x ∧ x < 256) (hlim : 0 ≤ lim) {last p x p' : Int} {V V' : NmV} (t0 : -1 ≤ last) (p0 : 0 ≤ p) (pl : p ≤ lim) (pn : p ≤ l.length) (hU : Upto (l := l) last V p) (h : rowM l lim last V p = .ok (x, V', p')) :
    Upto (l := l) x V' p' ∧ p < p' ∧ p' ≤ lim ∧ p' ≤ l.length ∧ last < x ∧ x < 3 := by
  rw [rowM] at h
  rcases hx : nextR l p lim with s | y
  · rw [hx] at h; cases h
  · rw [hx] at h
    simp only at h
    obtain ⟨hx1, hx2, hx3⟩ := next_ok2 hx
    split at h
    · rename_i hd
      rcases hu : uM rgSz l lim 5 0 (p + 1) with s | ⟨n, p2⟩
      · rw [hu] at h; cases h
      · rw [hu] at h
        simp only at h
        obtain ⟨hE, h1, h2, h3, lo, hi, hm, hlo, hhi⟩ := uM_enc h8 hlim (show 0 ≤ p + 1 by omega) hu
        rw [rest_in hlim] at hm hx2
        obtain ⟨n1, n2⟩ := rgSz_in (by omega) hm hlo hhi
        have hin : inLim p2 lim n = p2 + n := by unfold inLim; rw [rest_in hlim]; omega
        rw [hin] at h
        rcases hb : bodyM l (p2 + n) y V p2 with s | ⟨V2, p3⟩
        · rw [hb] at h; cases h
        · rw [hb] at h
          simp only at h
          split at h
          · rename_i hq
            simp only [Except.ok.injEq, Prod.mk.injEq] at h
            obtain ⟨rfl, rfl, rfl⟩ := h
            subst hq
            obtain ⟨⟨B0, B1, B2, hB, S0, S1, S2⟩, hg, m0, m1, m2⟩ := hU
            have hrow : Seg l p (p2 + n) = y :: (Seg l (p + 1) p2 ++ Seg l p2 (p2 + n)) := by
              rw [seg_cons p0 (by omega) hx1, seg_app (by omega) (by omega) (by omega)]
            have hall : Seg l 0 (p2 + n) = Seg l 0 p ++ (y :: (Seg l (p + 1) p2 ++ Seg l p2 (p2 + n))) := by rw [← hrow, seg_app (by omega) p0 (by omega)]
            have key : ∀ {Q : List Int → Prop}, p2 + n ≤ l.length → Q (Seg l p2 (p2 + n)) → Sec y true Q (y :: (Seg l (p + 1) p2 ++ Seg l p2 (p2 + n))) := by
              intro Q hl hQ
              refine ⟨Seg l (p + 1) p2, Seg l p2 (p2 + n), rfl, ?_, hQ⟩
              have : ((Seg l p2 (p2 + n)).length : Int) = n := by have := seg_len (l := l) (show 0 ≤ p2 by omega) (show p2 ≤ p2 + n by omega) hl; omega
              rw [this]; exact hE
            have hy : y = 0 ∨ y = 1 ∨ y = 2 := by omega
            rcases hy with rfl | rfl | rfl
            · obtain ⟨a0, b0⟩ := m0 (by omega)
              obtain ⟨a1, b1⟩ := m1 (by omega)
              obtain ⟨a2, b2⟩ := m2 (by omega)
              unfold bodyM at hb
              rw [if_pos rfl] at hb
              rcases hn : nameM 0 0 l p2 (p2 + n) with s | ⟨t, q⟩
              · rw [hn] at hb; cases hb
              · rw [hn] at hb
                simp only [Except.ok.injEq, Prod.mk.injEq] at hb
                obtain ⟨rfl, rfl⟩ := hb
                obtain ⟨c1, c2, c3, c4, c5⟩ := nameM_put h8 (show 0 ≤ p2 + n by omega) (by omega) hn
                rw [sec_no S0 a0, sec_no S1 a1, sec_no S2 a2] at hB
                refine ⟨⟨⟨_, [], [], by rw [hall, hB]; simp, key c5 c1, by rw [a1]; rfl, by rw [a2]; rfl⟩, ⟨.inl rfl, hg.f, hg.l, c2, hg.fs, hg.ls⟩, by omega, fun _ => ⟨a1, b1⟩, fun _ => ⟨a2, b2⟩⟩, by omega, by omega, c5, hd.1, by decide⟩
            · obtain ⟨a1, b1⟩ := m1 (by omega)
              obtain ⟨a2, b2⟩ := m2 (by omega)
              unfold bodyM at hb
              rw [if_neg (by decide), if_pos rfl] at hb
              rcases hn : liM (rdN l (p2 + n)) 0 0 l p2 (p2 + n) with s | ⟨t, q⟩
              · rw [hn] at hb; cases hb
              · rw [hn] at hb
                simp only [Except.ok.injEq, Prod.mk.injEq] at hb
                obtain ⟨rfl, rfl⟩ := hb
                obtain ⟨c1, c2, c3, c4, c5, c6⟩ := liM_put h8 (show 0 ≤ p2 + n by omega) (rdN_put h8 (show 0 ≤ p2 + n by omega)) (show 0 ≤ p2 by omega) hn
                rw [sec_no S1 a1, sec_no S2 a2] at hB
                refine ⟨⟨⟨B0, _, [], by rw [hall, hB]; simp, S0, key c4 c1, by rw [a2]; rfl⟩, ⟨hg.m, .inl rfl, hg.l, hg.md, ⟨c5, c6⟩, hg.ls⟩, by omega, by omega, fun _ => ⟨a2, b2⟩⟩, by omega, by omega, c4, hd.1, by decide⟩
            · obtain ⟨a2, b2⟩ := m2 (by omega)
              unfold bodyM at hb
              rw [if_neg (by decide), if_neg (by decide)] at hb
              rcases hn : liM (rdL l (p2 + n)) 0 0 l p2 (p2 + n) with s | ⟨t, q⟩
              · rw [hn] at hb; cases hb
              · rw [hn] at hb
                simp only [Except.ok.injEq, Prod.mk.injEq] at hb
                obtain ⟨rfl, rfl⟩ := hb
                obtain ⟨c1, c2, c3, c4, c5, c6⟩ := liM_put h8 (show 0 ≤ p2 + n by omega) (rdL_put h8 (show 0 ≤ p2 + n by omega)) (show 0 ≤ p2 by omega) hn
                rw [sec_no S2 a2] at hB
                refine ⟨⟨⟨B0, B1, _, by rw [hall, hB]; simp, S0, S1, key c4 c1⟩, ⟨hg.m, hg.f, .inl rfl, hg.md, hg.fs, ⟨c5, c6⟩⟩, by omega, by omega, by omega⟩, by omega, by omega, c4, hd.1, by decide⟩
          · cases h
    · cases h
theorem rowsM_put (h8 : ∀ x ∈ l, 0 ≤ x ∧ x < 256) (hlim : 0 ≤ lim) : ∀ (k : Nat) {last p p' : Int} {V V' : NmV}, -1 ≤ last → 0 ≤ p → p ≤ lim → p ≤ l.length → Upto (l := l) last V p → rowsM l lim k last V p = .ok (V', p') → NamesE (Seg l 0 p') V' ∧ GoodV V' ∧ 0 ≤ p' ∧ p' ≤ lim ∧ p' ≤ l.length := by
  intro k
  induction k with
  | zero =>
    intro last p p' V V' _ p0 pl pn hU h
    simp only [rowsM, Except.ok.injEq, Prod.mk.injEq] at h
    obtain ⟨rfl, rfl⟩ := h
    exact ⟨hU.bytes, hU.good, p0, pl, pn⟩
  | succ k ih =>
    intro last p p' V V' t0 p0 pl pn hU h
    rw [rowsM] at h
    split at h
    · rcases hm : rowM l lim last V p with s | ⟨x, V2, q⟩
      · rw [hm] at h; cases h
      · rw [hm] at h
        obtain ⟨a, b, c, d, e, f⟩ := rowM_put h8 hlim t0 p0 pl pn hU hm
        exact ih (by omega) (by omega) c d a h
    · simp only [Except.ok.injEq, Prod.mk.injEq] at h
      obtain ⟨rfl, rfl⟩ := h
      exact ⟨hU.bytes, hU.good, p0, pl, pn⟩
end
theorem inLim_all {l : List Int} (hl : l.length ≤ 1000000000) : inLim 0 (-1) l.length = l.length := by unfold inLim rest; rw [if_pos (by decide)]; omega
theorem readM_put {l : List Int} (h8 : ∀ x ∈ l, 0 ≤ x ∧ x < 256) (hl : l.length ≤ 1000000000) {V : NmV} {p : Int} (h : readM l = .ok (V, p)) : NamesE l V ∧ GoodV V := by
  rw [readM, inLim_all hl] at h
  rcases hm : rowsM l l.length 4 (-1) noNm 0 with s | ⟨V2, q⟩
  · rw [hm] at h; cases h
  · rw [hm] at h
    simp only at h
    split at h
    · rename_i hq
      simp only [Except.ok.injEq, Prod.mk.injEq] at h
      obtain ⟨rfl, rfl⟩ := h
      have hU : Upto (l := l) (-1) noNm 0 := ⟨⟨[], [], [], by rw [seg_nil]; rfl, rfl, rfl, rfl⟩, ⟨.inr rfl, .inr rfl, .inr rfl, txt_nil, ⟨trivial, fun x hx => by cases hx⟩, ⟨trivial, fun x hx => by cases hx⟩⟩, fun _ => ⟨rfl, rfl⟩, fun _ => ⟨rfl, rfl⟩, fun _ => ⟨rfl, rfl⟩⟩
      have := rowsM_put h8 (by omega) 4 (by decide) (by decide) (by omega) (by omega) hU hm
      rw [hq, seg_all] at this
      exact ⟨this.1, this.2.1⟩
    · cases h
end Go.Proofs.YtiohiiekaofkbaaGreatDoor
/- Names whose bytes these are, are read. Plain. -/
namespace Go.Proofs.YtiohiiekaofkbaaGreatDoor
set_option linter.unusedVariables false
set_option linter.unusedSimpArgs false
open Go.RowKit Go.Proofs.YtiohiiekaofkbaaGreatDoor.PNamesReads Go.Proofs.YtiohiiekaofkbaaGreatDoorW.PrintWords
theorem hasAt_cut {l : List Int} {p : Int} {L1 L2 : List Int} (h : HasAt l p (L1 ++ L2)) (p0 : 0 ≤ p) : HasAt l p L1 ∧ HasAt l (p + L1.length) L2 :=
  ⟨fun j x hj => h j x (by rw [List.getElem?_append_left (List.getElem?_eq_some_iff.1 hj).1]; exact hj), fun j x hj => by
    have := h (L1.length + j) x (by rw [List.getElem?_append_right (by omega), show L1.length + j - L1.length = j by omega]; exact hj)
    rwa [show (p + ((L1.length + j : Nat) : Int)).toNat = (p + (L1.length : Int) + (j : Int)).toNat by omega] at this⟩
theorem hasAt_self (l : List Int) : HasAt l 0 l := fun j x hj => by rwa [show ((0 : Int) + (j : Int)).toNat = j by omega]
theorem hasAt_seg {l : List Int} {p : Int} {L : List Int} (h : HasAt l p L) (p0 : 0 ≤ p) (hl : p + L.length ≤ l.length) : Seg l p (p + L.length) = L := by
  apply List.ext_getElem?
  intro j
  unfold Seg
  rw [List.getElem?_take, List.getElem?_drop, show (p + (L.length : Int) - p).toNat = L.length by omega]
  by_cases hj : j < L.length
  · rw [if_pos hj]
    have := h j L[j] (List.getElem?_eq_getElem hj)
    rw [show (p + (j : Int)).toNat = p.toNat + j by omega] at this
    rw [this, List.getElem?_eq_getElem hj]
  · rw [if_neg hj, List.getElem?_eq_none (by omega)]
theorem list_in1 {a b r n : Int} (h0 : a ≤ r) (h1 : r < 1099511627776) (hn : 0 ≤ n) (hn1 : n ≤ 4294967295) (hn2 : n ≤ r - a) (hn3 : 1099511627776 ≤ b ∨ r - b ≤ n) :
    ∃ lo hi, (lo, hi) ∈ rgL 1 1 a b r ∧ lo ≤ n ∧ n ≤ hi := by
  have hno : ¬ cnNone 1 a b r := by unfold cnNone; omega
  have hlow : cnLow 1 a b r ≤ n := by
    unfold cnLow
    by_cases hh : hasB a b r = true ∧ (r < 1099511627776 ∨ 1099511627776 ≤ b)
    · rw [if_pos hh]; exact hn
    · rw [if_neg hh, if_neg (by omega), Int.ediv_one]
      rcases hn3 with h | h
      · exact absurd ⟨by unfold hasB; exact decide_eq_true ⟨h0, .inl h⟩, .inl h1⟩ hh
      · omega
  have hhigh : cnHigh 1 a r = r - a := by unfold cnHigh; rw [Int.ediv_one]
  refine ⟨cnL 1 1 a b r, cnH 1 1 a b r, by simp [rgL], ?_, ?_⟩
  · unfold cnL
    rw [if_neg hno, hhigh]
    unfold wiL
    rw [if_neg (by omega)]
    omega
  · unfold cnH
    rw [if_neg hno, hhigh]
    unfold wiH
    rw [if_neg (by omega)]
    omega
theorem list_in2 {a b r n : Int} (h0 : a + 2 * n ≤ r) (h1 : r < 1099511627776) (hn : 0 ≤ n) (hn1 : n ≤ 4294967295) (hn3 : n = 0 → 1099511627776 ≤ b ∨ r ≤ b) :
    ∃ lo hi, (lo, hi) ∈ rgL 2 1099511627776 a b r ∧ lo ≤ n ∧ n ≤ hi := by
  have hno : ¬ cnNone 1099511627776 a b r := by unfold cnNone; omega
  have hlow : cnLow 1099511627776 a b r ≤ n := by
    unfold cnLow
    by_cases hh : hasB a b r = true ∧ (r < 1099511627776 ∨ 1099511627776 ≤ b)
    · rw [if_pos hh]; exact hn
    · rw [if_neg hh, if_pos (by omega)]
      by_cases hz : n = 0
      · exact absurd ⟨by unfold hasB; exact decide_eq_true ⟨by omega, hn3 hz⟩, .inl h1⟩ hh
      · omega
  have hhigh : n ≤ cnHigh 2 a r := by unfold cnHigh; omega
  refine ⟨cnL 2 1099511627776 a b r, cnH 2 1099511627776 a b r, by simp [rgL], ?_, ?_⟩
  · unfold cnL
    rw [if_neg hno]
    unfold wiL
    rw [if_neg (by omega)]
    omega
  · unfold cnH
    rw [if_neg hno]
    unfold wiH
    rw [if_neg (by omega)]
    omega
theorem rgSz_has {r n : Int} (h1 : 1 ≤ n) (h2 : n ≤ r) (h3 : r < 1099511627776) (h4 : n ≤ 4294967295) : ∃ lo hi, (lo, hi) ∈ rgSz r ∧ lo ≤ n ∧ n ≤ hi := by
  have hn : ¬ szNone 1099511627776 r := by unfold szNone; omega
  have hlow : szLow 1 1099511627776 r = 1 := by unfold szLow; rw [if_pos (.inr (Int.le_refl _))]
  have hhigh : n ≤ szHigh 1099511627776 0 r := by unfold szHigh; rw [if_neg (by omega)]; omega
  refine ⟨_, _, by rw [rgSz]; exact List.mem_singleton.2 rfl, ?_, ?_⟩
  · unfold szL
    rw [if_neg hn, hlow]
    unfold wiL
    split <;> omega
  · unfold szH
    rw [if_neg hn, hlow]
    unfold wiH
    rw [if_neg (by omega)]
    omega
theorem encT_pos {B : List Int} {s : ByteArray} (h : EncT B s) : 1 ≤ B.length := by
  obtain ⟨N, hN, rfl⟩ := h
  have := hN.pos
  rw [List.length_append]; omega
theorem encNl_pos {B : List Int} {xs : List S149} (h : EncNl B xs) : 1 ≤ B.length := by
  obtain ⟨N, C, rfl, hN, -⟩ := h
  have := hN.pos
  rw [List.length_append]; omega
section
variable {l : List Int} {lim : Int}
theorem nameM_read (hlim : lim ≤ l.length) (hl : l.length ≤ 1000000000) {a b p : Int} {B : List Int} {s : ByteArray} (hE : EncT B s) (ht : Txt (ns s)) (hat : HasAt l p B) (p0 : 0 ≤ p) (a0 : 0 ≤ a) (h1 : p + B.length + a ≤ lim) (h2 : 1099511627776 ≤ b ∨ lim - (p + B.length) ≤ b) :
    nameM a b l p lim = .ok (ns s, p + B.length) := by
  obtain ⟨N, hN, rfl⟩ := hE
  obtain ⟨hA1, hA2⟩ := hasAt_cut hat p0
  have hns := ns_len s
  rw [List.length_append] at h1 h2
  obtain ⟨lo, hi, hm, hlo, hhi⟩ := list_in1 (a := a) (b := b) (r := rest (p + N.length) lim) (n := s.size) (by rw [rest_in (by omega)]; omega) (by rw [rest_in (by omega)]; omega) (by omega) hN.v1 (by rw [rest_in (by omega)]; omega) (by rw [rest_in (by omega)]; omega)
  have hu := enc_read hN hA1 p0 (by omega) hm hlo hhi
  have hS := hasAt_seg hA2 (by omega) (by omega)
  have hr := nmM_read (l := l) (lim := lim) (E := p + N.length + (ns s).length) (by omega) (by omega) s.size (p + N.length) (p + N.length) (by omega) (Int.le_refl _) (by omega) (by rw [hS]; exact ht) (fun T h => by have := (sgnR_whole h).1; omega)
  rw [nameM, hu]
  simp only
  rw [Int.toNat_natCast, hr]
  simp only
  have : (l.drop (p + (N.length : Int)).toNat).take (p + (N.length : Int) + (ns s).length - (p + N.length)).toNat = ns s := hS
  rw [this, List.length_append, show p + (N.length : Int) + ((ns s).length : Int) = p + ((N.length + (ns s).length : Nat) : Int) by omega]
theorem str_ns (s : ByteArray) : strOfNums (ns s) = s := by
  unfold strOfNums ns
  congr 1
  rw [List.map_map]
  conv => rhs; rw [← Array.toArray_toList (xs := s.data), ← List.map_id s.data.toList]
  congr 1
  apply List.map_congr_left
  intro x _
  simp
theorem rdN_read (hlim : lim ≤ l.length) (hl : l.length ≤ 1000000000) : ∀ (x : S149) (T : List Int) (a b p : Int), EncT T x.f1 → GoodN x → HasAt l p T → 0 ≤ p → 0 ≤ a → p + T.length + a ≤ lim → (1099511627776 ≤ b ∨ lim - (p + T.length) ≤ b) → rdN l lim x.f0 a b p = .ok (x, p + T.length) := by
  intro x T a b p hE hg hat p0 a0 h1 h2
  rw [rdN, nameM_read hlim hl hE hg hat p0 a0 h1 h2]
  simp only
  rw [str_ns]
theorem tmMin_2 (m : Nat) (h : (m : Int) ≤ 1000000000) : tmMin 2 (m : Int) = 2 * m := by
  unfold tmMin capM
  split
  · omega
  · rw [if_neg (by omega)]; omega
theorem tmMax_E (m : Nat) : tmMax 1099511627776 (m : Int) = if m = 0 then 0 else 1099511627776 := by
  unfold tmMax
  by_cases h : m = 0
  · rw [if_pos (by omega), if_pos h]
  · rw [if_neg (by omega), if_pos (by omega), if_neg h]
theorem riM_read {α : Type} {rd : Int → Int → Int → Int → Except (Int × Int) (α × Int)} {Q : List Int → α → Prop} {f0 : α → Int} {Gd : α → Prop} (hlim : lim ≤ l.length) (hl : l.length ≤ 1000000000) (hQ : ∀ T x, Q T x → 1 ≤ T.length)
    (hrd : ∀ (x : α) (T : List Int) (a b p : Int), Q T x → Gd x → HasAt l p T → 0 ≤ p → 0 ≤ a → p + T.length + a ≤ lim → (1099511627776 ≤ b ∨ lim - (p + T.length) ≤ b) → rd (f0 x) a b p = .ok (x, p + T.length)) (a b : Int) (a0 : 0 ≤ a) :
    ∀ (xs : List α) (nx p : Int) (B : List Int), EncS (fun B x => ∃ N T, B = N ++ T ∧ Enc N (f0 x) ∧ Q T x) B xs → RiseF f0 nx xs → (∀ x ∈ xs, Gd x) → HasAt l p B → 0 ≤ p → p + B.length + a ≤ lim → (1099511627776 ≤ b ∨ lim - (p + B.length) ≤ b) → riM rd a b l lim xs.length nx p = .ok (xs, p + B.length) ∧ 2 * xs.length ≤ B.length := by
  intro xs
  induction xs with
  | nil =>
    intro nx p B hS _ _ _ _ _ _
    have : B = [] := hS
    subst this
    simp [riM]
  | cons x xs ih =>
    intro nx p B hS hR hG hat p0 h1 h2
    obtain ⟨B1, B2, rfl, ⟨N, T, rfl, hN, hT⟩, hS2⟩ := hS
    obtain ⟨hR1, hR2⟩ := hR
    obtain ⟨hA1, hA2⟩ := hasAt_cut hat p0
    obtain ⟨hA3, hA4⟩ := hasAt_cut hA1 p0
    have hNp := hN.pos
    have hTp := hQ T x hT
    simp only [List.length_append] at h1 h2 hA2
    obtain ⟨hrest, hlen⟩ := ih (f0 x + 1) (p + ((N.length + T.length : Nat) : Int)) B2 hS2 hR2 (fun y hy => hG y (by simp [hy])) hA2 (by omega) (by omega) (by omega)
    have hm9 : (xs.length : Int) ≤ 1000000000 := by omega
    have hu := enc_read (rg := rgX nx (1 + (tmMin 2 xs.length + a))) hN hA3 p0 (lim := lim) (by omega) (lo := nx) (hi := 4294967295) (by
      unfold rgX
      rw [rest_in (by omega), ch_in (by rw [tmMin_2 _ hm9]; omega) (by omega) (.inl (Int.le_refl _)), if_pos rfl]
      exact List.mem_singleton.2 rfl) hR1 hN.v1
    have hd := hrd x T (tmMin 2 xs.length + a) (andMax (tmMax 1099511627776 xs.length) b) (p + N.length) hT (hG x (by simp)) hA4 (by omega) (by rw [tmMin_2 _ hm9]; omega) (by rw [tmMin_2 _ hm9]; omega) (by
      rw [tmMax_E]
      unfold andMax
      by_cases hz : xs.length = 0
      · have e0 : xs = [] := List.length_eq_zero_iff.1 hz
        subst e0
        have : B2 = [] := hS2
        subst this
        simp only [List.length_nil, Nat.add_zero] at h1 h2
        rw [if_pos hz]
        split <;> omega
      · rw [if_neg hz, if_pos (.inl (Int.le_refl _))]; left; exact Int.le_refl _)
    refine ⟨?_, by simp only [List.length_append, List.length_cons]; omega⟩
    rw [List.length_cons, riM, hu]
    simp only
    rw [hd]
    simp only
    rw [show p + (N.length : Int) + (T.length : Int) = p + ((N.length + T.length : Nat) : Int) by omega, hrest]
    simp only [List.length_append]
    rw [show p + ((N.length + T.length : Nat) : Int) + (B2.length : Int) = p + ((N.length + T.length + B2.length : Nat) : Int) by omega]
theorem liM_read {α : Type} {rd : Int → Int → Int → Int → Except (Int × Int) (α × Int)} {Q : List Int → α → Prop} {f0 : α → Int} {Gd : α → Prop} (hlim : lim ≤ l.length) (hl : l.length ≤ 1000000000) (hQ : ∀ T x, Q T x → 1 ≤ T.length)
    (hrd : ∀ (x : α) (T : List Int) (a b p : Int), Q T x → Gd x → HasAt l p T → 0 ≤ p → 0 ≤ a → p + T.length + a ≤ lim → (1099511627776 ≤ b ∨ lim - (p + T.length) ≤ b) → rd (f0 x) a b p = .ok (x, p + T.length)) {a b : Int} (a0 : 0 ≤ a)
    {xs : List α} {p : Int} {B : List Int} (hB : ∃ N C, B = N ++ C ∧ Enc N xs.length ∧ EncS (fun B x => ∃ N T, B = N ++ T ∧ Enc N (f0 x) ∧ Q T x) C xs) (hR : RiseF f0 0 xs) (hG : ∀ x ∈ xs, Gd x) (hat : HasAt l p B) (p0 : 0 ≤ p) (h1 : p + B.length + a ≤ lim) (h2 : 1099511627776 ≤ b ∨ lim - (p + B.length) ≤ b) :
    liM rd a b l p lim = .ok (xs, p + B.length) := by
  obtain ⟨N, C, rfl, hN, hS⟩ := hB
  obtain ⟨hA1, hA2⟩ := hasAt_cut hat p0
  simp only [List.length_append] at h1 h2
  obtain ⟨hrest, hlen⟩ := riM_read hlim hl hQ hrd a b a0 xs 0 (p + N.length) C hS hR hG hA2 (by omega) (by omega) (by omega)
  obtain ⟨lo, hi, hm, hlo, hhi⟩ := list_in2 (a := a) (b := b) (r := rest (p + N.length) lim) (n := xs.length) (by rw [rest_in (by omega)]; omega) (by rw [rest_in (by omega)]; omega) (by omega) hN.v1 (fun hz => by
    have e0 : xs = [] := List.length_eq_zero_iff.1 (by omega)
    subst e0
    have : C = [] := hS
    subst this
    simp only [List.length_nil, Nat.add_zero] at h2
    rw [rest_in (by omega)]
    exact h2)
  have hu := enc_read hN hA1 p0 (by omega) hm hlo hhi
  rw [liM, hu]
  simp only
  rw [Int.toNat_natCast, hrest, List.length_append, show p + (N.length : Int) + (C.length : Int) = p + ((N.length + C.length : Nat) : Int) by omega]
theorem nl_read (hlim : lim ≤ l.length) (hl : l.length ≤ 1000000000) {a b : Int} (a0 : 0 ≤ a) {xs : List S149} {p : Int} {B : List Int} (hB : EncNl B xs) (hg : GoodNs xs) (hat : HasAt l p B) (p0 : 0 ≤ p) (h1 : p + B.length + a ≤ lim) (h2 : 1099511627776 ≤ b ∨ lim - (p + B.length) ≤ b) :
    liM (rdN l lim) a b l p lim = .ok (xs, p + B.length) :=
  liM_read (Q := fun T (x : S149) => EncT T x.f1) (f0 := fun x : S149 => x.f0) (Gd := GoodN) hlim hl (fun T x h => encT_pos h) (rdN_read hlim hl) a0 hB hg.1 hg.2 hat p0 h1 h2
theorem rdL_read (hlim : lim ≤ l.length) (hl : l.length ≤ 1000000000) : ∀ (x : S90) (T : List Int) (a b p : Int), EncNl T x.f1 → GoodL x → HasAt l p T → 0 ≤ p → 0 ≤ a → p + T.length + a ≤ lim → (1099511627776 ≤ b ∨ lim - (p + T.length) ≤ b) → rdL l lim x.f0 a b p = .ok (x, p + T.length) := by
  intro x T a b p hE hg hat p0 a0 h1 h2
  rw [rdL, nl_read hlim hl a0 hE hg hat p0 h1 h2]
theorem ll_read (hlim : lim ≤ l.length) (hl : l.length ≤ 1000000000) {a b : Int} (a0 : 0 ≤ a) {xs : List S90} {p : Int} {B : List Int} (hB : EncLl B xs) (hg : GoodLs xs) (hat : HasAt l p B) (p0 : 0 ≤ p) (h1 : p + B.length + a ≤ lim) (h2 : 1099511627776 ≤ b ∨ lim - (p + B.length) ≤ b) :
    liM (rdL l lim) a b l p lim = .ok (xs, p + B.length) :=
  liM_read (Q := fun T (x : S90) => EncNl T x.f1) (f0 := fun x : S90 => x.f0) (Gd := GoodL) hlim hl (fun T x h => encNl_pos h) (rdL_read hlim hl) a0 hB hg.1 hg.2 hat p0 h1 h2
theorem row_read (hlim : lim ≤ l.length) (hl : l.length ≤ 1000000000) {last x p : Int} {V V' : NmV} {N C : List Int} (hN : Enc N C.length) (hC : 1 ≤ C.length) (hat : HasAt l p (x :: (N ++ C))) (p0 : 0 ≤ p) (h1 : p + 1 + N.length + C.length ≤ lim) (hx : last < x ∧ x < 3)
    (hb : HasAt l (p + 1 + N.length) C → bodyM l (p + 1 + N.length + C.length) x V (p + 1 + N.length) = .ok (V', p + 1 + N.length + C.length)) :
    rowM l lim last V p = .ok (x, V', p + 1 + N.length + C.length) := by
  have hA0 := hat.tail p0
  obtain ⟨hA1, hA2⟩ := hasAt_cut hA0 (by omega)
  obtain ⟨lo, hi, hm, hlo, hhi⟩ := rgSz_has (r := rest (p + 1 + N.length) lim) (n := C.length) (by omega) (by rw [rest_in (by omega)]; omega) (by rw [rest_in (by omega)]; omega) hN.v1
  have hu := enc_read hN hA1 (by omega) (by omega) hm hlo hhi
  have hin : inLim (p + 1 + N.length) lim C.length = p + 1 + N.length + C.length := by unfold inLim; rw [rest_in (by omega)]; omega
  rw [rowM, next_at hat (by omega)]
  simp only
  rw [if_pos hx, hu]
  simp only
  rw [hin, hb hA2]
  simp only
  rw [if_pos trivial]
theorem rows_step {k : Nat} {last p x p' : Int} {V V' : NmV} (h : rowM l lim last V p = .ok (x, V', p')) (hr : 0 < rest p lim) : rowsM l lim (k + 1) last V p = rowsM l lim k x V' p' := by
  rw [rowsM, if_pos hr, h]
theorem rows_end {k : Nat} {last p : Int} {V : NmV} (hr : rest p lim ≤ 0) : rowsM l lim (k + 1) last V p = .ok (V, p) := by
  rw [rowsM, if_neg (by omega)]
end
theorem readM_read {l : List Int} {V : NmV} (hl : l.length ≤ 1000000000) (hB : NamesE l V) (hg : GoodV V) : ∃ p, readM l = .ok (V, p) := by
  obtain ⟨B0, B1, B2, hE, S0, S1, S2⟩ := hB
  have hat : HasAt l 0 (B0 ++ (B1 ++ B2)) := by rw [← hE]; exact hasAt_self l
  have hlen : l.length = B0.length + (B1.length + B2.length) := by rw [hE]; simp
  obtain ⟨hA0, hA1⟩ := hasAt_cut hat (by omega)
  obtain ⟨hA1, hA2⟩ := hasAt_cut hA1 (by omega)
  have P : Int := 0
  have stage2 : ∀ (k : Nat) (last : Int), last < 2 → rowsM l l.length (k + 2) last ⟨V.hm, V.hf, false, V.md, V.fs, []⟩ (0 + B0.length + B1.length) = .ok (V, l.length) := by
    intro k last hlast
    cases hh : V.hl
    · rw [hh] at S2
      have e : B2 = [] := by simpa [Sec] using S2
      rw [e] at hlen
      have hz : V.ls = [] := by rcases hg.l with h | h; rw [hh] at h; cases h; exact h
      rw [rows_end (by rw [rest_in (by omega)]; simp at hlen; omega)]
      simp only [List.length_nil, Nat.add_zero] at hlen
      rw [show (0 : Int) + (B0.length : Int) + (B1.length : Int) = l.length by omega]
      rw [← hh, ← hz]
    · rw [hh] at S2
      obtain ⟨N, C, rfl, hN, hC⟩ := (show ∃ N C, B2 = (2 : Int) :: (N ++ C) ∧ Enc N C.length ∧ EncLl C V.ls from by simpa [Sec] using S2)
      have hCp : 1 ≤ C.length := by obtain ⟨N', C', rfl, hN', -⟩ := hC; have := hN'.pos; simp; omega
      simp only [List.length_cons, List.length_append] at hlen
      have := row_read (l := l) (lim := l.length) (last := last) (V := ⟨V.hm, V.hf, false, V.md, V.fs, []⟩) (V' := V) (Int.le_refl _) hl hN hCp hA2 (by omega) (by omega) ⟨hlast, by decide⟩ (fun hA => by
        unfold bodyM
        rw [if_neg (by decide), if_neg (by decide), ll_read (l := l) (by omega) hl (Int.le_refl 0) hC hg.ls hA (by omega) (by omega) (by omega)]
        simp only
        rw [← hh])
      rw [rows_step this (by rw [rest_in (by omega)]; omega), rows_end (by rw [rest_in (by omega)]; omega)]
      congr 2
      omega
  have stage1 : ∀ (k : Nat) (last : Int), last < 1 → rowsM l l.length (k + 3) last ⟨V.hm, false, false, V.md, [], []⟩ (0 + B0.length) = .ok (V, l.length) := by
    intro k last hlast
    cases hh : V.hf
    · rw [hh] at S1
      have e : B1 = [] := by simpa [Sec] using S1
      subst e
      have hz : V.fs = [] := by rcases hg.f with h | h; rw [hh] at h; cases h; exact h
      have := stage2 (k + 1) last (by omega)
      rw [hh, hz] at this
      simpa using this
    · rw [hh] at S1
      obtain ⟨N, C, rfl, hN, hC⟩ := (show ∃ N C, B1 = (1 : Int) :: (N ++ C) ∧ Enc N C.length ∧ EncNl C V.fs from by simpa [Sec] using S1)
      have hCp := encNl_pos hC
      simp only [List.length_cons, List.length_append] at hlen
      have := row_read (l := l) (lim := l.length) (last := last) (V := ⟨V.hm, false, false, V.md, [], []⟩) (V' := ⟨V.hm, true, false, V.md, V.fs, []⟩) (Int.le_refl _) hl hN hCp hA1 (by omega) (by omega) ⟨hlast, by decide⟩ (fun hA => by
        unfold bodyM
        rw [if_neg (by decide), if_pos rfl, nl_read (l := l) (by omega) hl (Int.le_refl 0) hC hg.fs hA (by omega) (by omega) (by omega)])
      rw [rows_step this (by rw [rest_in (by omega)]; omega)]
      have h2 := stage2 k 1 (by decide)
      rw [hh] at h2
      simp only [List.length_cons, List.length_append] at h2
      rw [← h2]
      congr 1
      omega
  have stage0 : rowsM l l.length 4 (-1) noNm 0 = .ok (V, l.length) := by
    cases hh : V.hm
    · rw [hh] at S0
      have e : B0 = [] := by simpa [Sec] using S0
      subst e
      have hz : V.md = ⟨#[]⟩ := by rcases hg.m with h | h; rw [hh] at h; cases h; exact h
      have := stage1 1 (-1) (by decide)
      rw [hh, hz] at this
      simpa [noNm] using this
    · rw [hh] at S0
      obtain ⟨N, C, rfl, hN, hC⟩ := (show ∃ N C, B0 = (0 : Int) :: (N ++ C) ∧ Enc N C.length ∧ EncT C V.md from by simpa [Sec] using S0)
      have hCp := encT_pos hC
      simp only [List.length_cons, List.length_append] at hlen
      have := row_read (l := l) (lim := l.length) (last := -1) (V := noNm) (V' := ⟨true, false, false, V.md, [], []⟩) (Int.le_refl _) hl hN hCp hA0 (by omega) (by omega) ⟨by decide, by decide⟩ (fun hA => by
        unfold bodyM
        rw [if_pos rfl, nameM_read (l := l) (by omega) hl hC hg.md hA (by omega) (Int.le_refl 0) (by omega) (by omega)]
        simp only
        rw [str_ns]; rfl)
      rw [rows_step this (by rw [rest_in (by omega)]; omega)]
      have h2 := stage1 0 0 (by decide)
      rw [hh] at h2
      simp only [List.length_cons, List.length_append] at h2
      rw [← h2]
      congr 1
      omega
  refine ⟨l.length, ?_⟩
  rw [readM, inLim_all hl, stage0]
  simp only
  rw [if_pos trivial]
end Go.Proofs.YtiohiiekaofkbaaGreatDoor
/- The document's reader: raw, name. -/
namespace Go.Proofs.YtiohiiekaofkbaaGreatDoor
set_option linter.unusedVariables false
set_option linter.unusedSimpArgs false
open Go.RowKit Go.Proofs.YtiohiiekaofkbaaGreatDoor.PNamesReads Go.Proofs.YtiohiiekaofkbaaGreatDoorW.PrintWords
def dRaw (n : Int) (l : List Int) : Option (ByteArray × List Int) := if n ≤ l.length then some (strOfNums (l.take n.toNat), l.drop n.toNat) else none
def dTxt (l : List Int) : Option (ByteArray × List Int) := match numL l with | none => none | some (n, r) => match dRaw n r with | none => none | some (x, r2) => if vld x then some (x, r2) else none
def PostRaw (g : Nat) (w : World) (r : Option (ByteArray × List Int)) (n : Nat) : Ending → World → Prop := PostD g n w (fun x e _ => e = .returned (.string x)) (fun e _ => e = .returned (.string ⟨#[]⟩)) r
def PostTxt (g : Nat) (w : World) (r : Option (ByteArray × List Int)) (n : Nat) : Ending → World → Prop := PostD g n w (fun x e _ => e = .returned (.string x)) (fun e _ => ∃ x, e = .returned (.string x)) r
theorem extract_str (s : ByteArray) (k : Nat) : s.extract 0 k = strOfNums ((ns s).take k) := by rw [← ns_extract0, str_ns]
set_option maxRecDepth 100000 in
set_option maxHeartbeats 4000000 in
theorem raw_walk2 (g : Nat) (s : ByteArray) (b : Bool) (n : Int) (w : World) (h : RdC g s b w) (hs : s.size ≤ 1000000000) (n0 : 0 ≤ n) (n1 : n ≤ 4294967295) :
    Calls Tryz.prog 18 #[.pointer (some ⟨g, 0, none⟩), .int .u32 n] w (PostRaw g w (if b then none else dRaw n (ns s)) s.size) := by
  have HH := hid h
  have hl := ns_length s
  obtain ⟨c0, c1, f0, f1⟩ := h
  have hw1 : IntKind.u64.wrap n = n := by rw [wu]; omega
  have hw2 : IntKind.u64.wrap (s.size : Int) = s.size := by rw [wu]; omega
  by_cases hn : (s.size : Int) < n
  · have h2 : ¬ n ≤ ((ns s).length : Int) := by omega
    have HZ := hid (show dRaw n (ns s) = none by unfold dRaw; rw [if_neg h2])
    clear hl h2
    have HP : PostRaw g w none s.size (.returned (.string ⟨#[]⟩)) (w.setCell ⟨g, 1, none⟩ (.bool true)) := ⟨grown_setCell w g 1 _, rfl, s, Nat.le_refl _, HH.out.set1 true⟩
    replace HP := hid HP
    cases b
    all_goals
      go_enter Tryz.func18, Tryz.ntmps18
      go_wp2_with fail
      refine bodyPost_ret (v := .string ⟨#[]⟩) (by simp [results, Tryz.results18, go_sem]) rfl ?_
      first | exact HP.out | (have e := HZ.out; rw [e]; exact HP.out) | (simp only [HZ.out]; exact HP.out) | (simp [HZ.out]; exact HP.out)
  · cases b with
    | true =>
      clear hl
      go_enter Tryz.func18, Tryz.ntmps18
      go_wp2_with fail
      refine bodyPost_ret (v := .string ⟨#[]⟩) (by simp [results, Tryz.results18, go_sem]) rfl ?_
      exact ⟨grown_setCell w g 1 _, rfl, s, Nat.le_refl _, HH.out.set1 true⟩
    | false =>
      have HZ := hid (show dRaw n (ns s) = some (s.extract 0 n.toNat, (ns s).drop n.toNat) by unfold dRaw; rw [if_pos (by omega), extract_str])
      have hsl : (0 : Int) ≤ n ∧ n ≤ (s.size : Int) := by omega
      clear hl
      go_enter Tryz.func18, Tryz.ntmps18
      go_wp2_with fail
      refine bodyPost_ret (v := .string (s.extract 0 n.toNat)) (by simp [results, Tryz.results18, go_sem]) rfl ?_
      show PostRaw g w (dRaw n (ns s)) _ _ _
      rw [HZ.out]
      exact ⟨grown_setCell w g 0 _, rfl, _, ns_extract s _ (by omega), HH.out.set0 _⟩
end Go.Proofs.YtiohiiekaofkbaaGreatDoor
/- The document's reader: name. -/
namespace Go.Proofs.YtiohiiekaofkbaaGreatDoor
set_option linter.unusedVariables false
set_option linter.unusedSimpArgs false
open Go.RowKit Go.Proofs.YtiohiiekaofkbaaGreatDoor.PNamesReads Go.Proofs.YtiohiiekaofkbaaGreatDoorW.PrintWords
theorem dRaw_rest {n : Int} {l l' : List Int} {x : ByteArray} (n0 : 0 ≤ n) (h : dRaw n l = some (x, l')) : x.size ≤ l.length ∧ l'.length ≤ l.length ∧ (x.size : Int) = n ∧ l' = l.drop n.toNat ∧ x = strOfNums (l.take n.toNat) := by
  unfold dRaw at h
  split at h
  · simp only [Option.some.injEq, Prod.mk.injEq] at h
    obtain ⟨rfl, rfl⟩ := h
    rw [str_len2, List.length_take, List.length_drop]
    exact ⟨by omega, by omega, by omega, rfl, rfl⟩
  · cases h
set_option maxRecDepth 100000 in
set_option maxHeartbeats 4000000 in
theorem name_dwalk (g : Nat) (s : ByteArray) (b : Bool) (w : World) (h : RdC g s b w) (hs : s.size ≤ 1000000000) :
    Calls Tryz.prog 20 #[.pointer (some ⟨g, 0, none⟩)] w (PostTxt g w (if b then none else dTxt (ns s)) s.size) := by
  have hlen := ns_length s
  have h8 := ns_u8 s
  have HNU := hid (num_walk g s b w h hs)
  have HRW := hid (fun (W : World) (s1 : ByteArray) (b1 : Bool) (n : Int) (h1 : RdC g s1 b1 W) (hs1 : s1.size ≤ 1000000000) (n0 : 0 ≤ n) (n1 : n ≤ 4294967295) => raw_walk2 g s1 b1 n W h1 hs1 n0 n1)
  rcases hz : (if b = true then none else numL (ns s)) with _ | ⟨v, r⟩
  · have HZ : (if b = true then none else dTxt (ns s)) = none := by
      cases b with
      | true => rfl
      | false => simp only [Bool.false_eq_true, if_false] at hz ⊢; unfold dTxt; rw [hz]
    rw [HZ]
    rw [hz] at HNU
    clear hz HZ hlen h8
    go_enter Tryz.func20, Tryz.ntmps20
    go_wp2_with (first | (go_at_call 19; (with_reducible refine HNU.out.mono ?_); rintro e w1 ⟨hR1, rfl, s1, hz1, hC1⟩; have HC1 := hid hC1; have HR1 := hid hR1) | (go_at_call 18; (with_reducible refine (HRW.out w1 s1 true 0 HC1.out (by omega) (by omega) (by omega)).mono ?_); rintro e w2 ⟨hR2, rfl, s2, hz2, hC2⟩; have HC2 := hid hC2; have HR2 := hid hR2; obtain ⟨c0, c1, f0, f1⟩ := hC2))
    refine bodyPost_ret (v := .string ⟨#[]⟩) (by simp [results, Tryz.results20, go_sem]) rfl ?_
    exact ⟨(HR1.out.trans HR2.out).trans (grown_setCell w2 g 1 _), ⟨_, rfl⟩, s2, by omega, HC2.out.set1 true⟩
  · have hb : b = false := by cases b; rfl; cases hz
    subst hb
    simp only [Bool.false_eq_true, if_false] at hz HNU ⊢
    obtain ⟨v0, v1, hr, hr8⟩ := numL_rest h8 hz
    rw [hz] at HNU
    rcases hq : dRaw v r with _ | ⟨x, r2⟩
    · have HZ : dTxt (ns s) = none := by unfold dTxt; rw [hz]; simp only; rw [hq]
      rw [HZ]
      have HQ := hid hq
      have hrl : r.length ≤ s.size := by omega
      clear hz HZ hlen h8 hq hr8
      go_enter Tryz.func20, Tryz.ntmps20
      go_wp2_with (first | (go_at_call 19; (with_reducible refine HNU.out.mono ?_); rintro e w1 ⟨hR1, rfl, s1, hs1, hC1⟩; have HC1 := hid hC1; have HR1 := hid hR1; have hl1 : s1.size = r.length := by rw [← ns_length, hs1]) | (go_at_call 18; have HX := HRW.out w1 s1 false v HC1.out (by omega) (by omega) (by omega); rw [hs1, if_neg (by decide), HQ.out] at HX; (with_reducible refine HX.mono ?_); rintro e w2 ⟨hR2, rfl, s2, hz2, hC2⟩; clear HX; have HC2 := hid hC2; have HR2 := hid hR2; obtain ⟨c0, c1, f0, f1⟩ := hC2))
      refine bodyPost_ret (v := .string ⟨#[]⟩) (by simp [results, Tryz.results20, go_sem]) rfl ?_
      exact ⟨(HR1.out.trans HR2.out).trans (grown_setCell w2 g 1 _), ⟨_, rfl⟩, s2, by omega, HC2.out.set1 true⟩
    · obtain ⟨hx1, hx2, hx3, -, -⟩ := dRaw_rest v0 hq
      have HT := hid (fun W => rtext_walk x W (by omega))
      have hrl : r.length ≤ s.size := by omega
      have HQ := hid hq
      rcases hv : vld x with _ | _
      · have HZ : dTxt (ns s) = none := by unfold dTxt; rw [hz]; simp only; rw [hq]; simp only; rw [hv]; rfl
        rw [HZ]
        rw [hv] at HT
        clear hz HZ hlen h8 hq hr8 hv
        go_enter Tryz.func20, Tryz.ntmps20
        go_wp2_with (first | (go_at_call 19; (with_reducible refine HNU.out.mono ?_); rintro e w1 ⟨hR1, rfl, s1, hs1, hC1⟩; have HC1 := hid hC1; have HR1 := hid hR1; have hl1 : s1.size = r.length := by rw [← ns_length, hs1]) | (go_at_call 18; go_loud (have HX := HRW.out w1 s1 false v HC1.out (by omega) (by omega) (by omega); rw [hs1, if_neg (by decide), HQ.out] at HX; (with_reducible refine HX.mono ?_); rintro e w2 ⟨hR2, rfl, s2, hs2, hC2⟩; clear HX; have HC2 := hid hC2; have HR2 := hid hR2; have hl2 : s2.size = r2.length := (by rw [← ns_length, hs2]); obtain ⟨c0, c1, f0, f1⟩ := hC2)) | (go_at_call 51; go_loud ((with_reducible refine (HT.out _).mono ?_); rintro e w3 ⟨rfl, hb3⟩; have HC3 := hid (HC2.out.below hb3); have HR3 := hid ((HR1.out.trans HR2.out).trans (Rd.of_below hb3)); obtain ⟨c0, c1, f0, f1⟩ := HC3.out)))
        refine bodyPost_ret (v := .string x) (by simp [results, Tryz.results20, go_sem]) rfl ?_
        exact ⟨HR3.out.trans (grown_setCell w3 g 1 _), ⟨_, rfl⟩, s2, by omega, HC3.out.set1 true⟩
      · have HZ : dTxt (ns s) = some (x, r2) := by unfold dTxt; rw [hz]; simp only; rw [hq]; simp only; rw [hv]; rfl
        rw [HZ]
        rw [hv] at HT
        clear hz HZ hlen h8 hq hr8 hv
        go_enter Tryz.func20, Tryz.ntmps20
        go_wp2_with (first | (go_at_call 19; (with_reducible refine HNU.out.mono ?_); rintro e w1 ⟨hR1, rfl, s1, hs1, hC1⟩; have HC1 := hid hC1; have HR1 := hid hR1; have hl1 : s1.size = r.length := by rw [← ns_length, hs1]) | (go_at_call 18; go_loud (have HX := HRW.out w1 s1 false v HC1.out (by omega) (by omega) (by omega); rw [hs1, if_neg (by decide), HQ.out] at HX; (with_reducible refine HX.mono ?_); rintro e w2 ⟨hR2, rfl, s2, hs2, hC2⟩; clear HX; have HC2 := hid hC2; have HR2 := hid hR2; have hl2 : s2.size = r2.length := (by rw [← ns_length, hs2]); obtain ⟨c0, c1, f0, f1⟩ := hC2)) | (go_at_call 51; go_loud ((with_reducible refine (HT.out _).mono ?_); rintro e w3 ⟨rfl, hb3⟩; have HC3 := hid (HC2.out.below hb3); have HR3 := hid ((HR1.out.trans HR2.out).trans (Rd.of_below hb3)); obtain ⟨c0, c1, f0, f1⟩ := HC3.out)))
        refine bodyPost_ret (v := .string x) (by simp [results, Tryz.results20, go_sem]) rfl ?_
        exact ⟨HR3.out.trans (grown_setCell w3 g 1 _), rfl, s2, hs2, HC3.out.set1 false⟩
end Go.Proofs.YtiohiiekaofkbaaGreatDoor
/- The document's reader: list. -/
namespace Go.Proofs.YtiohiiekaofkbaaGreatDoor
set_option linter.unusedVariables false
set_option linter.unusedSimpArgs false
open Go.RowKit Go.Proofs.YtiohiiekaofkbaaGreatDoor.PNamesReads Go.Proofs.YtiohiiekaofkbaaGreatDoorW.PrintWords
def dItems {α : Type} (mk : Int → List Int → Option (α × List Int)) : Nat → Int → List Int → Option (List α × List Int)
  | 0, _, r => some ([], r)
  | k + 1, nx, r => match numL r with
    | none => none
    | some (ix, r1) => match mk ix r1 with
      | none => none
      | some (x, r2) => if ix < nx then none else match dItems mk k (ix + 1) r2 with
        | none => none
        | some (xs, r3) => some (x :: xs, r3)
def dList {α : Type} (mk : Int → List Int → Option (α × List Int)) (l : List Int) : Option (List α × List Int) := match numL l with | none => none | some (n, r) => dItems mk n.toNat 0 r
def mkN (ix : Int) (l : List Int) : Option (S149 × List Int) := match dTxt l with | none => none | some (t, r) => some (⟨ix, t⟩, r)
def mkL (ix : Int) (l : List Int) : Option (S90 × List Int) := match dList mkN l with | none => none | some (xs, r) => some (⟨ix, xs⟩, r)
def toN (x : S182) : S149 := ⟨x.f0, x.f1⟩
def toL (x : S86) : S90 := ⟨x.f0, x.f1.map toN⟩
def frN (x : S149) : S182 := ⟨x.f0, x.f1⟩
def frL (x : S90) : S86 := ⟨x.f0, x.f1.map frN⟩
theorem frN_toN (l : List S182) : (l.map toN).map frN = l := by rw [List.map_map]; exact (List.map_congr_left (fun x _ => rfl)).trans (List.map_id l)
theorem toN_frN (l : List S149) : (l.map frN).map toN = l := by rw [List.map_map]; exact (List.map_congr_left (fun x _ => rfl)).trans (List.map_id l)
def aheadD {α : Type} (xs : List α) (r : Option (List α × List Int)) : Option (List α × List Int) := match r with | none => none | some (ys, l) => some (xs ++ ys, l)
theorem aheadD_nil {α : Type} (r : Option (List α × List Int)) : aheadD [] r = r := by rcases r with _ | ⟨ys, l⟩ <;> rfl
def dStep {α : Type} (mk : Int → List Int → Option (α × List Int)) (r : List Int) : Option (α × List Int) := match numL r with | none => none | some (ix, r1) => mk ix r1
theorem di_none {α : Type} {mk : Int → List Int → Option (α × List Int)} {k : Nat} {nx : Int} {r : List Int} (xs : List α) (h : dStep mk r = none) : aheadD xs (dItems mk (k + 1) nx r) = none := by
  unfold dStep at h
  rw [dItems]
  rcases hn : numL r with _ | ⟨ix, r1⟩
  · rfl
  · rw [hn] at h
    simp only at h ⊢
    rw [h]; rfl
theorem di_some {α : Type} {mk : Int → List Int → Option (α × List Int)} {f0 : α → Int} (hf : ∀ ix l x l', mk ix l = some (x, l') → f0 x = ix) {k : Nat} {nx : Int} {r r2 : List Int} {x : α} (xs : List α) (h : dStep mk r = some (x, r2)) :
    aheadD xs (dItems mk (k + 1) nx r) = if f0 x < nx then none else aheadD (xs ++ [x]) (dItems mk k (f0 x + 1) r2) := by
  unfold dStep at h
  rw [dItems]
  rcases hn : numL r with _ | ⟨ix, r1⟩
  · rw [hn] at h; cases h
  · rw [hn] at h
    simp only at h ⊢
    rw [h, hf _ _ _ _ h]
    simp only
    split
    · rfl
    · rcases dItems mk k (ix + 1) r2 with _ | ⟨ys, r3⟩
      · rfl
      · simp [aheadD]
theorem mkN_f0 : ∀ ix l (x : S149) l', mkN ix l = some (x, l') → x.f0 = ix := by
  intro ix l x l' h
  unfold mkN at h
  rcases hd : dTxt l with _ | ⟨t, r⟩
  · rw [hd] at h; cases h
  · rw [hd] at h; cases h; rfl
theorem mkL_f0 : ∀ ix l (x : S90) l', mkL ix l = some (x, l') → x.f0 = ix := by
  intro ix l x l' h
  unfold mkL at h
  rcases hd : dList mkN l with _ | ⟨t, r⟩
  · rw [hd] at h; cases h
  · rw [hd] at h; cases h; rfl
theorem dTxt_rest {l l' : List Int} {x : ByteArray} (h8 : ∀ x ∈ l, 0 ≤ x ∧ x < 256) (h : dTxt l = some (x, l')) : l'.length < l.length ∧ ∀ x ∈ l', 0 ≤ x ∧ x < 256 := by
  unfold dTxt at h
  rcases hn : numL l with _ | ⟨n, r⟩
  · rw [hn] at h; cases h
  · rw [hn] at h
    simp only at h
    obtain ⟨n0, -, hr, hr8⟩ := numL_rest h8 hn
    rcases hq : dRaw n r with _ | ⟨y, r2⟩
    · rw [hq] at h; cases h
    · rw [hq] at h
      simp only at h
      obtain ⟨-, h2, -, h4, -⟩ := dRaw_rest n0 hq
      split at h
      · cases h
        exact ⟨by omega, fun z hz => hr8 z (by rw [h4] at hz; exact List.mem_of_mem_drop hz)⟩
      · cases h
def nxO {α : Type} (f0 : α → Int) (xs : List α) : Int := match xs.getLast? with | none => 0 | some x => f0 x + 1
theorem nxO_app {α : Type} (f0 : α → Int) (xs : List α) (x : α) : nxO f0 (xs ++ [x]) = f0 x + 1 := by unfold nxO; simp
theorem num2 (g : Nat) (s : ByteArray) (b : Bool) (w : World) (h : RdC g s b w) (hs : s.size ≤ 1000000000) :
    Calls Tryz.prog 19 #[.pointer (some ⟨g, 0, none⟩)] w (fun e w' => ∃ v s1 b1, e = .returned (.int .u32 v) ∧ 0 ≤ v ∧ v ≤ 4294967295 ∧ RdC g s1 b1 w' ∧ s1.size ≤ s.size ∧ Rd g w w' ∧ ((b1 = true ∧ (if b then none else numL (ns s)) = none) ∨ (b1 = false ∧ b = false ∧ numL (ns s) = some (v, ns s1)))) := by
  refine (num_walk g s b w h hs).mono ?_
  rintro e w' ⟨hR, hm⟩
  rcases hz : (if b = true then none else numL (ns s)) with _ | ⟨v, r⟩
  · rw [hz] at hm
    obtain ⟨rfl, s1, h1, h2⟩ := hm
    exact ⟨0, s1, true, rfl, by decide, by decide, h2, h1, hR, .inl ⟨rfl, rfl⟩⟩
  · rw [hz] at hm
    obtain ⟨rfl, s1, h1, h2⟩ := hm
    have hb : b = false := by cases b; rfl; cases hz
    subst hb
    simp only [Bool.false_eq_true, if_false] at hz
    obtain ⟨v0, v1, hl, -⟩ := numL_rest (ns_u8 s) hz
    exact ⟨v, s1, false, rfl, v0, v1, h2, by rw [← ns_length, ← ns_length s, h1]; omega, hR, .inr ⟨rfl, rfl, by rw [hz, h1]⟩⟩
theorem name2 (g : Nat) (s : ByteArray) (b : Bool) (w : World) (h : RdC g s b w) (hs : s.size ≤ 1000000000) :
    Calls Tryz.prog 20 #[.pointer (some ⟨g, 0, none⟩)] w (fun e w' => ∃ x s1 b1, e = .returned (.string x) ∧ RdC g s1 b1 w' ∧ s1.size ≤ s.size ∧ Rd g w w' ∧ ((b1 = true ∧ (if b then none else dTxt (ns s)) = none) ∨ (b1 = false ∧ b = false ∧ dTxt (ns s) = some (x, ns s1)))) := by
  refine (name_dwalk g s b w h hs).mono ?_
  rintro e w' ⟨hR, hm⟩
  rcases hz : (if b = true then none else dTxt (ns s)) with _ | ⟨v, r⟩
  · rw [hz] at hm
    obtain ⟨⟨x, rfl⟩, s1, h1, h2⟩ := hm
    exact ⟨x, s1, true, rfl, h2, h1, hR, .inl ⟨rfl, rfl⟩⟩
  · rw [hz] at hm
    obtain ⟨rfl, s1, h1, h2⟩ := hm
    have hb : b = false := by cases b; rfl; cases hz
    subst hb
    simp only [Bool.false_eq_true, if_false] at hz
    have hl := (dTxt_rest (ns_u8 s) hz).1
    exact ⟨v, s1, false, rfl, h2, by rw [← ns_length, ← ns_length s, h1]; omega, hR, .inr ⟨rfl, rfl, by rw [hz, h1]⟩⟩
def PostDL {α β : Type} (d : Kd β) (T : Nat) (f : α → β) (g n : Nat) (w : World) (r : Option (List α × List Int)) : Ending → World → Prop :=
  PostD g n w (fun xs e w' => ∃ v, e = .returned v ∧ d.R T w' w.heap.size (fun k => w.heap.size ≤ k) v (xs.map f)) (fun e w' => ∃ v ys, e = .returned v ∧ d.R T w' w.heap.size (fun k => w.heap.size ≤ k) v ys) r
end Go.Proofs.YtiohiiekaofkbaaGreatDoor
