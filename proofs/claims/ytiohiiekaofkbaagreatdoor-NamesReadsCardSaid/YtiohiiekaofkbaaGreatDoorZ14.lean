/- Texts of this claim, as far as they are used here: L12. -/
import Derived.Test.YtiohiiekaofkbaaGreatDoorZ13
/- dobbylaw10.Own of a module that has nothing but customs. -/
namespace Go.Proofs.YtiohiiekaofkbaaGreatDoor
set_option linter.unusedVariables false
set_option linter.unusedSimpArgs false
open Go.RowKit Go.Proofs.YtiohiiekaofkbaaGreatDoor.PNamesReads Go.Proofs.YtiohiiekaofkbaaGreatDoorW.PrintWords
theorem set14 {W : World} {g T : Nat} {z0 z1 z2 z3 z4 z5 z6 z7 z8 z9 z10 z11 z12 z13 : Value} (h : W.heap[g]? = some (.cells #[z0, z1, z2, z3, z4, z5, z6, z7, z8, z9, z10, z11, z12, z13] T (0, 0))) (v0 v1 v2 v3 v4 v5 v6 v7 v8 v9 v10 v11 v12 v13 : Value) : (((((((((((((((W.setCell ⟨g, 0, none⟩ (v0)).setCell ⟨g, 1, none⟩ (v1)).setCell ⟨g, 2, none⟩ (v2)).setCell ⟨g, 3, none⟩ (v3)).setCell ⟨g, 4, none⟩ (v4)).setCell ⟨g, 5, none⟩ (v5)).setCell ⟨g, 6, none⟩ (v6)).setCell ⟨g, 7, none⟩ (v7)).setCell ⟨g, 8, none⟩ (v8)).setCell ⟨g, 9, none⟩ (v9)).setCell ⟨g, 10, none⟩ (v10)).setCell ⟨g, 11, none⟩ (v11)).setCell ⟨g, 12, none⟩ (v12)).setCell ⟨g, 13, none⟩ (v13))).heap[g]? = some (.cells #[v0, v1, v2, v3, v4, v5, v6, v7, v8, v9, v10, v11, v12, v13] T (0, 0)) := by
  have h0 := blk_put h 0 v0 (cs' := #[v0, z1, z2, z3, z4, z5, z6, z7, z8, z9, z10, z11, z12, z13]) rfl
  have h1 := blk_put h0 1 v1 (cs' := #[v0, v1, z2, z3, z4, z5, z6, z7, z8, z9, z10, z11, z12, z13]) rfl
  have h2 := blk_put h1 2 v2 (cs' := #[v0, v1, v2, z3, z4, z5, z6, z7, z8, z9, z10, z11, z12, z13]) rfl
  have h3 := blk_put h2 3 v3 (cs' := #[v0, v1, v2, v3, z4, z5, z6, z7, z8, z9, z10, z11, z12, z13]) rfl
  have h4 := blk_put h3 4 v4 (cs' := #[v0, v1, v2, v3, v4, z5, z6, z7, z8, z9, z10, z11, z12, z13]) rfl
  have h5 := blk_put h4 5 v5 (cs' := #[v0, v1, v2, v3, v4, v5, z6, z7, z8, z9, z10, z11, z12, z13]) rfl
  have h6 := blk_put h5 6 v6 (cs' := #[v0, v1, v2, v3, v4, v5, v6, z7, z8, z9, z10, z11, z12, z13]) rfl
  have h7 := blk_put h6 7 v7 (cs' := #[v0, v1, v2, v3, v4, v5, v6, v7, z8, z9, z10, z11, z12, z13]) rfl
  have h8 := blk_put h7 8 v8 (cs' := #[v0, v1, v2, v3, v4, v5, v6, v7, v8, z9, z10, z11, z12, z13]) rfl
  have h9 := blk_put h8 9 v9 (cs' := #[v0, v1, v2, v3, v4, v5, v6, v7, v8, v9, z10, z11, z12, z13]) rfl
  have h10 := blk_put h9 10 v10 (cs' := #[v0, v1, v2, v3, v4, v5, v6, v7, v8, v9, v10, z11, z12, z13]) rfl
  have h11 := blk_put h10 11 v11 (cs' := #[v0, v1, v2, v3, v4, v5, v6, v7, v8, v9, v10, v11, z12, z13]) rfl
  have h12 := blk_put h11 12 v12 (cs' := #[v0, v1, v2, v3, v4, v5, v6, v7, v8, v9, v10, v11, v12, z13]) rfl
  have h13 := blk_put h12 13 v13 (cs' := #[v0, v1, v2, v3, v4, v5, v6, v7, v8, v9, v10, v11, v12, v13]) rfl
  exact h13
theorem below14 {B g : Nat} {w W : World} (h : Below B w W) (hg : B ≤ g) (v0 v1 v2 v3 v4 v5 v6 v7 v8 v9 v10 v11 v12 v13 : Value) : Below B w (((((((((((((((W.setCell ⟨g, 0, none⟩ (v0)).setCell ⟨g, 1, none⟩ (v1)).setCell ⟨g, 2, none⟩ (v2)).setCell ⟨g, 3, none⟩ (v3)).setCell ⟨g, 4, none⟩ (v4)).setCell ⟨g, 5, none⟩ (v5)).setCell ⟨g, 6, none⟩ (v6)).setCell ⟨g, 7, none⟩ (v7)).setCell ⟨g, 8, none⟩ (v8)).setCell ⟨g, 9, none⟩ (v9)).setCell ⟨g, 10, none⟩ (v10)).setCell ⟨g, 11, none⟩ (v11)).setCell ⟨g, 12, none⟩ (v12)).setCell ⟨g, 13, none⟩ (v13))) := by
  have h0 := Below.setCell (p := ⟨g, 0, none⟩) h hg v0
  have h1 := Below.setCell (p := ⟨g, 1, none⟩) h0 hg v1
  have h2 := Below.setCell (p := ⟨g, 2, none⟩) h1 hg v2
  have h3 := Below.setCell (p := ⟨g, 3, none⟩) h2 hg v3
  have h4 := Below.setCell (p := ⟨g, 4, none⟩) h3 hg v4
  have h5 := Below.setCell (p := ⟨g, 5, none⟩) h4 hg v5
  have h6 := Below.setCell (p := ⟨g, 6, none⟩) h5 hg v6
  have h7 := Below.setCell (p := ⟨g, 7, none⟩) h6 hg v7
  have h8 := Below.setCell (p := ⟨g, 8, none⟩) h7 hg v8
  have h9 := Below.setCell (p := ⟨g, 9, none⟩) h8 hg v9
  have h10 := Below.setCell (p := ⟨g, 10, none⟩) h9 hg v10
  have h11 := Below.setCell (p := ⟨g, 11, none⟩) h10 hg v11
  have h12 := Below.setCell (p := ⟨g, 12, none⟩) h11 hg v12
  have h13 := Below.setCell (p := ⟨g, 13, none⟩) h12 hg v13
  exact h13
theorem far14 (W : World) (g k : Nat) (h : k ≠ g) (v0 v1 v2 v3 v4 v5 v6 v7 v8 v9 v10 v11 v12 v13 : Value) : (((((((((((((((W.setCell ⟨g, 0, none⟩ (v0)).setCell ⟨g, 1, none⟩ (v1)).setCell ⟨g, 2, none⟩ (v2)).setCell ⟨g, 3, none⟩ (v3)).setCell ⟨g, 4, none⟩ (v4)).setCell ⟨g, 5, none⟩ (v5)).setCell ⟨g, 6, none⟩ (v6)).setCell ⟨g, 7, none⟩ (v7)).setCell ⟨g, 8, none⟩ (v8)).setCell ⟨g, 9, none⟩ (v9)).setCell ⟨g, 10, none⟩ (v10)).setCell ⟨g, 11, none⟩ (v11)).setCell ⟨g, 12, none⟩ (v12)).setCell ⟨g, 13, none⟩ (v13))).heap[k]? = W.heap[k]? := by
  rw [heap_setCell_other _ _ _ _ h, heap_setCell_other _ _ _ _ h, heap_setCell_other _ _ _ _ h, heap_setCell_other _ _ _ _ h, heap_setCell_other _ _ _ _ h, heap_setCell_other _ _ _ _ h, heap_setCell_other _ _ _ _ h, heap_setCell_other _ _ _ _ h, heap_setCell_other _ _ _ _ h, heap_setCell_other _ _ _ _ h, heap_setCell_other _ _ _ _ h, heap_setCell_other _ _ _ _ h, heap_setCell_other _ _ _ _ h, heap_setCell_other _ _ _ _ h]
def CusAt (w : World) (A : Option Addr) (l : List S91) : Prop := ∀ (i : Nat) (h : i < l.length), ∃ ad, A = some ad ∧ w.cell? (ad.add (i * 3)) = some (.int .i64 l[i].f0) ∧ w.cell? ⟨(ad.add (i * 3)).block, (ad.add (i * 3)).off + 1, none⟩ = some (.string l[i].f1) ∧ w.cell? ⟨(ad.add (i * 3)).block, (ad.add (i * 3)).off + 2, none⟩ = some (.string l[i].f2)
theorem CusAt.below {w W : World} {A : Option Addr} {l : List S91} (h : CusAt w A l) (hb : Below w.heap.size w W) : CusAt W A l := by
  intro i hi
  obtain ⟨ad, e, h0, h1, h2⟩ := h i hi
  exact ⟨ad, e, pw_cell_below hb h0, pw_cell_below hb h1, pw_cell_below hb h2⟩
theorem keepM {w1 W : World} {AB : Nat} (h : w1.cell? ⟨AB, 2, none⟩ = some (.slice none 0 0) ∧ w1.cell? ⟨AB, 7, none⟩ = some (.bool false) ∧ w1.cell? ⟨AB, 8, none⟩ = some (.int .u32 0) ∧ w1.cell? ⟨AB, 10, none⟩ = some (.bool false)) (hb : Below w1.heap.size w1 W) :
    W.cell? ⟨AB, 2, none⟩ = some (.slice none 0 0) ∧ W.cell? ⟨AB, 7, none⟩ = some (.bool false) ∧ W.cell? ⟨AB, 8, none⟩ = some (.int .u32 0) ∧ W.cell? ⟨AB, 10, none⟩ = some (.bool false) ∧ Below w1.heap.size w1 W :=
  ⟨still hb h.1, still hb h.2.1, still hb h.2.2.1, still hb h.2.2.2, hb⟩
theorem newA (W : World) (o : Obj) (cs : Array Value) {n T : Nat} (hn : W.heap.size = n) : ((W.alloc o).alloc (.cells cs T)).drew.heap[n + 1]? = some (.cells cs T (0, 0)) := by
  have := blk_new (W.alloc o) (.cells cs T)
  rw [show (W.alloc o).heap.size = n + 1 by simp [hn]] at this
  exact this
theorem newB (W : World) (o : Obj) (cs : Array Value) {n T : Nat} (hn : W.heap.size = n) : ((W.alloc (.cells cs T)).alloc o).drew.heap[n]? = some (.cells cs T (0, 0)) := by
  have := blk_alloc (blk_new W (.cells cs T)) o
  rw [hn] at this
  exact this
def SCus (MB AB : Nat) (ad : Addr) (v va a b c : Value) (W : World) : Prop := W.cell? ⟨MB, 13, none⟩ = some v ∧ W.frozen? ⟨MB, 13, none⟩ = false ∧ W.cell? ⟨AB, 13, none⟩ = some va ∧ W.cell? ad = some a ∧ W.cell? ⟨ad.block, ad.off + 1, none⟩ = some b ∧ W.cell? ⟨ad.block, ad.off + 2, none⟩ = some c
theorem SCus.keep {MB AB : Nat} {ad : Addr} {v va a b c : Value} {W W' : World} (h : SCus MB AB ad v va a b c W) (e0 : W'.heap[MB]? = W.heap[MB]?) (e1 : W'.heap[AB]? = W.heap[AB]?) (e2 : W'.heap[ad.block]? = W.heap[ad.block]?) : SCus MB AB ad v va a b c W' :=
  ⟨(World.cell?_of_block (a := ⟨MB, 13, none⟩) e0).trans h.1, (World.frozen?_of_block (a := ⟨MB, 13, none⟩) e0).trans h.2.1, (World.cell?_of_block (a := ⟨AB, 13, none⟩) e1).trans h.2.2.1, (World.cell?_of_block (a := ad) e2).trans h.2.2.2.1, (World.cell?_of_block (a := ⟨ad.block, ad.off + 1, none⟩) e2).trans h.2.2.2.2.1, (World.cell?_of_block (a := ⟨ad.block, ad.off + 2, none⟩) e2).trans h.2.2.2.2.2⟩
set_option maxRecDepth 100000 in
set_option maxHeartbeats 8000000 in
theorem own10_walk (A : Option Addr) (c : Nat) (l : List S91) (w : World) (hA : CusAt w A l) (hl : l.length ≤ 20) :
    Calls Tryz.prog 9 #[.agg #[.slice none 0 0, .slice none 0 0, .slice none 0 0, .slice none 0 0, .slice none 0 0, .slice none 0 0, .slice none 0 0, .bool false, .int .u32 0, .slice none 0 0, .bool false, .slice none 0 0, .slice none 0 0, .slice A l.length c]] w (fun e w' => ∃ fa fc A' c', e = .returned (.agg #[.slice none 0 0, .slice none 0 0, .slice fa 0 fc, .slice none 0 0, .slice none 0 0, .slice none 0 0, .slice none 0 0, .bool false, .int .u32 0, .slice none 0 0, .bool false, .slice none 0 0, .slice none 0 0, .slice A' l.length c']) ∧ k91.C w' A' l.length l ∧ l.length ≤ c' ∧ Below w.heap.size w w') := by
  have HA := hid hA
  have HL := hid hl
  clear hA hl
  go_enter Tryz.func9, Tryz.ntmps9
  go_upto_region 1 with fail
  obtain ⟨W1, hW1⟩ : ∃ W1, W1 = (w.alloc (.cells #[.slice none 0 0, .slice none 0 0, .slice none 0 0, .slice none 0 0, .slice none 0 0, .slice none 0 0, .slice none 0 0, .bool false, .int .u32 0, .slice none 0 0, .bool false, .slice none 0 0, .slice none 0 0, .slice A l.length c] 65)).alloc (.cells #[.slice none 0 0, .slice none 0 0, .slice none 0 0, .slice none 0 0, .slice none 0 0, .slice none 0 0, .slice none 0 0, .bool false, .int .u32 0, .slice none 0 0, .bool false, .slice none 0 0, .slice none 0 0, .slice none 0 0] 53) := ⟨_, rfl⟩
  have HB1 := hid (show Below w.heap.size w W1 by rw [hW1]; exact bel)
  have hz1 : W1.heap.size = w.heap.size + 1 + 1 := by rw [hW1]; simp
  have HAB := hid (show W1.heap[w.heap.size]? = some (.cells #[.slice none 0 0, .slice none 0 0, .slice none 0 0, .slice none 0 0, .slice none 0 0, .slice none 0 0, .slice none 0 0, .bool false, .int .u32 0, .slice none 0 0, .bool false, .slice none 0 0, .slice none 0 0, .slice A l.length c] 65 (0, 0)) by rw [hW1]; exact blk_alloc (blk_new _ _) _)
  have HRB := hid (show W1.heap[w.heap.size + 1]? = some (.cells #[.slice none 0 0, .slice none 0 0, .slice none 0 0, .slice none 0 0, .slice none 0 0, .slice none 0 0, .slice none 0 0, .bool false, .int .u32 0, .slice none 0 0, .bool false, .slice none 0 0, .slice none 0 0, .slice none 0 0] 53 (0, 0)) by rw [hW1]; have := blk_new (w.alloc (.cells #[.slice none 0 0, .slice none 0 0, .slice none 0 0, .slice none 0 0, .slice none 0 0, .slice none 0 0, .slice none 0 0, .bool false, .int .u32 0, .slice none 0 0, .bool false, .slice none 0 0, .slice none 0 0, .slice A l.length c] 65)) (.cells #[.slice none 0 0, .slice none 0 0, .slice none 0 0, .slice none 0 0, .slice none 0 0, .slice none 0 0, .slice none 0 0, .bool false, .int .u32 0, .slice none 0 0, .bool false, .slice none 0 0, .slice none 0 0, .slice none 0 0] 53); rwa [show (w.alloc (.cells #[.slice none 0 0, .slice none 0 0, .slice none 0 0, .slice none 0 0, .slice none 0 0, .slice none 0 0, .slice none 0 0, .bool false, .int .u32 0, .slice none 0 0, .bool false, .slice none 0 0, .slice none 0 0, .slice A l.length c] 65)).heap.size = w.heap.size + 1 by simp] at this)
  rw [← hW1]
  clear hW1
  have S0 := hid (show W1.cell? ⟨w.heap.size, 2, none⟩ = some (.slice none 0 0) ∧ W1.cell? ⟨w.heap.size, 7, none⟩ = some (.bool false) ∧ W1.cell? ⟨w.heap.size, 8, none⟩ = some (.int .u32 0) ∧ W1.cell? ⟨w.heap.size, 10, none⟩ = some (.bool false) from ⟨blk_cell HAB.out 2, blk_cell HAB.out 7, blk_cell HAB.out 8, blk_cell HAB.out 10⟩)
  go_cut [3] (fun s3 wx => ∃ (MB : Nat) (fa : Option Addr) (fc : Nat), s3 = .pointer (some ⟨MB, 0, none⟩) ∧ W1.heap.size ≤ MB ∧ Hid (wx.heap[MB]? = some (.cells #[.slice none 0 0, .slice none 0 0, .slice fa 0 fc, .slice none 0 0, .slice none 0 0, .slice none 0 0, .slice none 0 0, .bool false, .int .u32 0, .slice none 0 0, .bool false, .slice none 0 0, .slice none 0 0, .slice none 0 0] 53 (0, 0))) ∧ Hid (Below W1.heap.size W1 wx))
  case first =>
    refine wp_region_noPanic ?_
    refine wp_region_held_drew (S := (fun W => W.cell? ⟨w.heap.size, 2, none⟩ = some (.slice none 0 0) ∧ W.cell? ⟨w.heap.size, 7, none⟩ = some (.bool false) ∧ W.cell? ⟨w.heap.size, 8, none⟩ = some (.int .u32 0) ∧ W.cell? ⟨w.heap.size, 10, none⟩ = some (.bool false) ∧ Below W1.heap.size W1 W)) (by kernel_rfl) ?hSa1 (fun hHeld => ?goa1)
    case hSa1 => exact keepM S0.out (Below.drew (Below.refl _ _))
    refine tk 1 ⟨some 15, .fieldAddr 65 (.tmp 1) 2, 0, "law.go:13", #[], none⟩ rfl ?_
    refine tk 2 ⟨some 16, .load 42 (.tmp 15), 42, "law.go:13", #[⟨1, .data⟩], none⟩ rfl ?_
    refine tk 4 ⟨some 18, .fieldAddr 65 (.tmp 1) 7, 0, "law.go:13", #[], none⟩ rfl ?_
    refine tk 5 ⟨some 19, .load 4 (.tmp 18), 4, "law.go:13", #[⟨4, .data⟩], none⟩ rfl ?_
    refine tk 6 ⟨some 20, .fieldAddr 65 (.tmp 1) 8, 0, "law.go:13", #[], none⟩ rfl ?_
    refine tk 7 ⟨some 21, .load 47 (.tmp 20), 47, "law.go:13", #[⟨6, .data⟩], none⟩ rfl ?_
    refine tk 8 ⟨some 22, .fieldAddr 65 (.tmp 1) 10, 0, "law.go:13", #[], none⟩ rfl ?_
    refine tk 9 ⟨some 23, .load 4 (.tmp 22), 4, "law.go:13", #[⟨8, .data⟩], none⟩ rfl ?_
    refine wpAnyH_ready (rs := [0, 11]) (by kernel_rfl) (by simp) ?_
    refine AllReadyH.cons (o := ⟨some 14, .buildSlice 42 0 #[], 42, "law.go:13", #[], none⟩) rfl (fun K hK => ?_) ?_
    · go_simp
      refine hK.out _ _ ?_ (fun hHeld => ?_)
      · (try dsimp only); exact keepM S0.out bel
      clear hK K
      try simp only [Act.put, List.setIfInBounds_toArray, List.set_cons_zero, List.set_cons_succ]
      refine wpAnyH_ready (rs := [3, 11]) (by kernel_rfl) (by simp) ?_
      refine AllReadyH.cons (o := ⟨some 17, .call { callee := .builtin Go.Builtin.append, args := #[.tmp 14, .tmp 16], argTypes := #[42, 42] }, 42, "law.go:13", #[⟨0, .data⟩, ⟨2, .data⟩], none⟩) rfl (fun K hK => ?_) ?_
      · go_simp
        refine hK.out _ _ ?_ (fun hHeld => ?_)
        · (try dsimp only); exact keepM S0.out bel
        clear hK K
        try simp only [Act.put, List.setIfInBounds_toArray, List.set_cons_zero, List.set_cons_succ]
        refine tk 10 ⟨some 24, .build 53 #[(2, .tmp 17), (7, .tmp 19), (8, .tmp 21), (10, .tmp 23)], 53, "law.go:13", #[⟨3, .data⟩, ⟨5, .data⟩, ⟨7, .data⟩, ⟨9, .data⟩], none⟩ rfl ?_
        refine wpAnyH_ready (rs := [11]) (by kernel_rfl) (by simp) ?_
        refine AllReadyH.cons (o := ⟨some 3, .alloc 53, 0, "law.go:13", #[], none⟩) rfl (fun K hK => ?_) AllReadyH.nil
        go_simp
        refine hK.out _ _ ?_ (fun hHeld => ?_)
        · (try dsimp only); exact keepM S0.out bel
        clear hK K
        try simp only [Act.put, List.setIfInBounds_toArray, List.set_cons_zero, List.set_cons_succ]
        refine wpAnyH_ready (rs := [12]) (by kernel_rfl) (by simp) ?_
        refine AllReadyH.cons (o := ⟨none, .store 53 (.tmp 3) (.tmp 24), 0, "law.go:13", #[⟨11, .data⟩, ⟨10, .data⟩, ⟨3, .chain⟩, ⟨0, .phase⟩, ⟨1, .phase⟩, ⟨2, .phase⟩, ⟨3, .phase⟩, ⟨4, .phase⟩, ⟨5, .phase⟩, ⟨6, .phase⟩, ⟨7, .phase⟩, ⟨8, .phase⟩, ⟨9, .phase⟩, ⟨10, .phase⟩, ⟨11, .phase⟩], none⟩) rfl (fun K hK => ?_) AllReadyH.nil
        go_simp
        refine hK.out _ _ ?_ (fun hHeld => ?_)
        · (try dsimp only); exact keepM S0.out bel
        clear hK K
        try simp only [Act.put, List.setIfInBounds_toArray, List.set_cons_zero, List.set_cons_succ]
        refine wpAnyH_done (by kernel_rfl) ?_ _
        refine NoPanic.normal ?_
        go_wp2_with fail
        go_meet
        exact ⟨_, _, _, rfl, by omega, hid (by first | exact newA _ _ _ hz1 | exact newB _ _ _ hz1), hid bel⟩
      refine AllReadyH.cons (o := ⟨some 3, .alloc 53, 0, "law.go:13", #[], none⟩) rfl (fun K hK => ?_) ?_
      · go_simp
        refine hK.out _ _ ?_ (fun hHeld => ?_)
        · (try dsimp only); exact keepM S0.out bel
        clear hK K
        try simp only [Act.put, List.setIfInBounds_toArray, List.set_cons_zero, List.set_cons_succ]
        refine wpAnyH_ready (rs := [3]) (by kernel_rfl) (by simp) ?_
        refine AllReadyH.cons (o := ⟨some 17, .call { callee := .builtin Go.Builtin.append, args := #[.tmp 14, .tmp 16], argTypes := #[42, 42] }, 42, "law.go:13", #[⟨0, .data⟩, ⟨2, .data⟩], none⟩) rfl (fun K hK => ?_) AllReadyH.nil
        go_simp
        refine hK.out _ _ ?_ (fun hHeld => ?_)
        · (try dsimp only); exact keepM S0.out bel
        clear hK K
        try simp only [Act.put, List.setIfInBounds_toArray, List.set_cons_zero, List.set_cons_succ]
        refine tk 10 ⟨some 24, .build 53 #[(2, .tmp 17), (7, .tmp 19), (8, .tmp 21), (10, .tmp 23)], 53, "law.go:13", #[⟨3, .data⟩, ⟨5, .data⟩, ⟨7, .data⟩, ⟨9, .data⟩], none⟩ rfl ?_
        refine wpAnyH_ready (rs := [12]) (by kernel_rfl) (by simp) ?_
        refine AllReadyH.cons (o := ⟨none, .store 53 (.tmp 3) (.tmp 24), 0, "law.go:13", #[⟨11, .data⟩, ⟨10, .data⟩, ⟨3, .chain⟩, ⟨0, .phase⟩, ⟨1, .phase⟩, ⟨2, .phase⟩, ⟨3, .phase⟩, ⟨4, .phase⟩, ⟨5, .phase⟩, ⟨6, .phase⟩, ⟨7, .phase⟩, ⟨8, .phase⟩, ⟨9, .phase⟩, ⟨10, .phase⟩, ⟨11, .phase⟩], none⟩) rfl (fun K hK => ?_) AllReadyH.nil
        go_simp
        refine hK.out _ _ ?_ (fun hHeld => ?_)
        · (try dsimp only); exact keepM S0.out bel
        clear hK K
        try simp only [Act.put, List.setIfInBounds_toArray, List.set_cons_zero, List.set_cons_succ]
        refine wpAnyH_done (by kernel_rfl) ?_ _
        refine NoPanic.normal ?_
        go_wp2_with fail
        go_meet
        exact ⟨_, _, _, rfl, by omega, hid (by first | exact newA _ _ _ hz1 | exact newB _ _ _ hz1), hid bel⟩
      exact AllReadyH.nil
    refine AllReadyH.cons (o := ⟨some 3, .alloc 53, 0, "law.go:13", #[], none⟩) rfl (fun K hK => ?_) ?_
    · go_simp
      refine hK.out _ _ ?_ (fun hHeld => ?_)
      · (try dsimp only); exact keepM S0.out bel
      clear hK K
      try simp only [Act.put, List.setIfInBounds_toArray, List.set_cons_zero, List.set_cons_succ]
      refine wpAnyH_ready (rs := [0]) (by kernel_rfl) (by simp) ?_
      refine AllReadyH.cons (o := ⟨some 14, .buildSlice 42 0 #[], 42, "law.go:13", #[], none⟩) rfl (fun K hK => ?_) AllReadyH.nil
      go_simp
      refine hK.out _ _ ?_ (fun hHeld => ?_)
      · (try dsimp only); exact keepM S0.out bel
      clear hK K
      try simp only [Act.put, List.setIfInBounds_toArray, List.set_cons_zero, List.set_cons_succ]
      refine wpAnyH_ready (rs := [3]) (by kernel_rfl) (by simp) ?_
      refine AllReadyH.cons (o := ⟨some 17, .call { callee := .builtin Go.Builtin.append, args := #[.tmp 14, .tmp 16], argTypes := #[42, 42] }, 42, "law.go:13", #[⟨0, .data⟩, ⟨2, .data⟩], none⟩) rfl (fun K hK => ?_) AllReadyH.nil
      go_simp
      refine hK.out _ _ ?_ (fun hHeld => ?_)
      · (try dsimp only); exact keepM S0.out bel
      clear hK K
      try simp only [Act.put, List.setIfInBounds_toArray, List.set_cons_zero, List.set_cons_succ]
      refine tk 10 ⟨some 24, .build 53 #[(2, .tmp 17), (7, .tmp 19), (8, .tmp 21), (10, .tmp 23)], 53, "law.go:13", #[⟨3, .data⟩, ⟨5, .data⟩, ⟨7, .data⟩, ⟨9, .data⟩], none⟩ rfl ?_
      refine wpAnyH_ready (rs := [12]) (by kernel_rfl) (by simp) ?_
      refine AllReadyH.cons (o := ⟨none, .store 53 (.tmp 3) (.tmp 24), 0, "law.go:13", #[⟨11, .data⟩, ⟨10, .data⟩, ⟨3, .chain⟩, ⟨0, .phase⟩, ⟨1, .phase⟩, ⟨2, .phase⟩, ⟨3, .phase⟩, ⟨4, .phase⟩, ⟨5, .phase⟩, ⟨6, .phase⟩, ⟨7, .phase⟩, ⟨8, .phase⟩, ⟨9, .phase⟩, ⟨10, .phase⟩, ⟨11, .phase⟩], none⟩) rfl (fun K hK => ?_) AllReadyH.nil
      go_simp
      refine hK.out _ _ ?_ (fun hHeld => ?_)
      · (try dsimp only); exact keepM S0.out bel
      clear hK K
      try simp only [Act.put, List.setIfInBounds_toArray, List.set_cons_zero, List.set_cons_succ]
      refine wpAnyH_done (by kernel_rfl) ?_ _
      refine NoPanic.normal ?_
      go_wp2_with fail
      go_meet
      exact ⟨_, _, _, rfl, by omega, hid (by first | exact newA _ _ _ hz1 | exact newB _ _ _ hz1), hid bel⟩
    exact AllReadyH.nil
  case rest =>
    obtain ⟨MB, fa, fc, rfl, hMB, HMB, HB2⟩ := hcut
    have HS0 := hid (show wc.heap[w.heap.size]? = some (.cells #[.slice none 0 0, .slice none 0 0, .slice none 0 0, .slice none 0 0, .slice none 0 0, .slice none 0 0, .slice none 0 0, .bool false, .int .u32 0, .slice none 0 0, .bool false, .slice none 0 0, .slice none 0 0, .slice A l.length c] 65 (0, 0)) ∧ wc.heap[w.heap.size + 1]? = some (.cells #[.slice none 0 0, .slice none 0 0, .slice none 0 0, .slice none 0 0, .slice none 0 0, .slice none 0 0, .slice none 0 0, .bool false, .int .u32 0, .slice none 0 0, .bool false, .slice none 0 0, .slice none 0 0, .slice none 0 0] 53 (0, 0)) ∧ wc.heap[MB]? = some (.cells #[.slice none 0 0, .slice none 0 0, .slice fa 0 fc, .slice none 0 0, .slice none 0 0, .slice none 0 0, .slice none 0 0, .bool false, .int .u32 0, .slice none 0 0, .bool false, .slice none 0 0, .slice none 0 0, .slice none 0 0] 53 (0, 0)) ∧ Below W1.heap.size W1 wc from ⟨blk_below HAB.out HB2.out, blk_below HRB.out HB2.out, HMB.out, HB2.out⟩)
    clear HMB HB2 HAB HRB S0
    go_wp2_with fail
    go_loopw [4] (fun v4 wr => v4 = .int .i64 0 ∧ Hid (wr.heap[w.heap.size]? = some (.cells #[.slice none 0 0, .slice none 0 0, .slice none 0 0, .slice none 0 0, .slice none 0 0, .slice none 0 0, .slice none 0 0, .bool false, .int .u32 0, .slice none 0 0, .bool false, .slice none 0 0, .slice none 0 0, .slice A l.length c] 65 (0, 0)) ∧ wr.heap[w.heap.size + 1]? = some (.cells #[.slice none 0 0, .slice none 0 0, .slice none 0 0, .slice none 0 0, .slice none 0 0, .slice none 0 0, .slice none 0 0, .bool false, .int .u32 0, .slice none 0 0, .bool false, .slice none 0 0, .slice none 0 0, .slice none 0 0] 53 (0, 0)) ∧ wr.heap[MB]? = some (.cells #[.slice none 0 0, .slice none 0 0, .slice fa 0 fc, .slice none 0 0, .slice none 0 0, .slice none 0 0, .slice none 0 0, .bool false, .int .u32 0, .slice none 0 0, .bool false, .slice none 0 0, .slice none 0 0, .slice none 0 0] 53 (0, 0)) ∧ Below W1.heap.size W1 wr)) (fun _ _ => 0)
    case atStart => exact ⟨rfl, HS0⟩
    case round =>
      obtain ⟨rfl, HS1⟩ := hrel
      clear HS0
      have a0 : wr.cell? ⟨w.heap.size, 0, none⟩ = some (.slice none 0 0) := blk_cell HS1.out.1 0
      go_wp2_with fail
      go_loopw [5] (fun v5 wr => v5 = .int .i64 0 ∧ Hid (wr.heap[w.heap.size]? = some (.cells #[.slice none 0 0, .slice none 0 0, .slice none 0 0, .slice none 0 0, .slice none 0 0, .slice none 0 0, .slice none 0 0, .bool false, .int .u32 0, .slice none 0 0, .bool false, .slice none 0 0, .slice none 0 0, .slice A l.length c] 65 (0, 0)) ∧ wr.heap[w.heap.size + 1]? = some (.cells #[.slice none 0 0, .slice none 0 0, .slice none 0 0, .slice none 0 0, .slice none 0 0, .slice none 0 0, .slice none 0 0, .bool false, .int .u32 0, .slice none 0 0, .bool false, .slice none 0 0, .slice none 0 0, .slice none 0 0] 53 (0, 0)) ∧ wr.heap[MB]? = some (.cells #[.slice none 0 0, .slice none 0 0, .slice fa 0 fc, .slice none 0 0, .slice none 0 0, .slice none 0 0, .slice none 0 0, .bool false, .int .u32 0, .slice none 0 0, .bool false, .slice none 0 0, .slice none 0 0, .slice none 0 0] 53 (0, 0)) ∧ Below W1.heap.size W1 wr)) (fun _ _ => 0)
      case atStart => exact ⟨rfl, HS1⟩
      case round =>
        obtain ⟨rfl, HS2⟩ := hrel
        clear HS1
        have a1 : wr.cell? ⟨w.heap.size, 1, none⟩ = some (.slice none 0 0) := blk_cell HS2.out.1 1
        go_wp2_with fail
        go_loopw [6] (fun v6 wr => v6 = .int .i64 0 ∧ Hid (wr.heap[w.heap.size]? = some (.cells #[.slice none 0 0, .slice none 0 0, .slice none 0 0, .slice none 0 0, .slice none 0 0, .slice none 0 0, .slice none 0 0, .bool false, .int .u32 0, .slice none 0 0, .bool false, .slice none 0 0, .slice none 0 0, .slice A l.length c] 65 (0, 0)) ∧ wr.heap[w.heap.size + 1]? = some (.cells #[.slice none 0 0, .slice none 0 0, .slice none 0 0, .slice none 0 0, .slice none 0 0, .slice none 0 0, .slice none 0 0, .bool false, .int .u32 0, .slice none 0 0, .bool false, .slice none 0 0, .slice none 0 0, .slice none 0 0] 53 (0, 0)) ∧ wr.heap[MB]? = some (.cells #[.slice none 0 0, .slice none 0 0, .slice fa 0 fc, .slice none 0 0, .slice none 0 0, .slice none 0 0, .slice none 0 0, .bool false, .int .u32 0, .slice none 0 0, .bool false, .slice none 0 0, .slice none 0 0, .slice none 0 0] 53 (0, 0)) ∧ Below W1.heap.size W1 wr)) (fun _ _ => 0)
        case atStart => exact ⟨rfl, HS2⟩
        case round =>
          obtain ⟨rfl, HS3⟩ := hrel
          clear HS2
          have a3 : wr.cell? ⟨w.heap.size, 3, none⟩ = some (.slice none 0 0) := blk_cell HS3.out.1 3
          go_wp2_with fail
          go_loopw [7] (fun v7 wr => v7 = .int .i64 0 ∧ Hid (wr.heap[w.heap.size]? = some (.cells #[.slice none 0 0, .slice none 0 0, .slice none 0 0, .slice none 0 0, .slice none 0 0, .slice none 0 0, .slice none 0 0, .bool false, .int .u32 0, .slice none 0 0, .bool false, .slice none 0 0, .slice none 0 0, .slice A l.length c] 65 (0, 0)) ∧ wr.heap[w.heap.size + 1]? = some (.cells #[.slice none 0 0, .slice none 0 0, .slice none 0 0, .slice none 0 0, .slice none 0 0, .slice none 0 0, .slice none 0 0, .bool false, .int .u32 0, .slice none 0 0, .bool false, .slice none 0 0, .slice none 0 0, .slice none 0 0] 53 (0, 0)) ∧ wr.heap[MB]? = some (.cells #[.slice none 0 0, .slice none 0 0, .slice fa 0 fc, .slice none 0 0, .slice none 0 0, .slice none 0 0, .slice none 0 0, .bool false, .int .u32 0, .slice none 0 0, .bool false, .slice none 0 0, .slice none 0 0, .slice none 0 0] 53 (0, 0)) ∧ Below W1.heap.size W1 wr)) (fun _ _ => 0)
          case atStart => exact ⟨rfl, HS3⟩
          case round =>
            obtain ⟨rfl, HS4⟩ := hrel
            clear HS3
            have a4 : wr.cell? ⟨w.heap.size, 4, none⟩ = some (.slice none 0 0) := blk_cell HS4.out.1 4
            go_wp2_with fail
            go_loopw [8] (fun v8 wr => v8 = .int .i64 0 ∧ Hid (wr.heap[w.heap.size]? = some (.cells #[.slice none 0 0, .slice none 0 0, .slice none 0 0, .slice none 0 0, .slice none 0 0, .slice none 0 0, .slice none 0 0, .bool false, .int .u32 0, .slice none 0 0, .bool false, .slice none 0 0, .slice none 0 0, .slice A l.length c] 65 (0, 0)) ∧ wr.heap[w.heap.size + 1]? = some (.cells #[.slice none 0 0, .slice none 0 0, .slice none 0 0, .slice none 0 0, .slice none 0 0, .slice none 0 0, .slice none 0 0, .bool false, .int .u32 0, .slice none 0 0, .bool false, .slice none 0 0, .slice none 0 0, .slice none 0 0] 53 (0, 0)) ∧ wr.heap[MB]? = some (.cells #[.slice none 0 0, .slice none 0 0, .slice fa 0 fc, .slice none 0 0, .slice none 0 0, .slice none 0 0, .slice none 0 0, .bool false, .int .u32 0, .slice none 0 0, .bool false, .slice none 0 0, .slice none 0 0, .slice none 0 0] 53 (0, 0)) ∧ Below W1.heap.size W1 wr)) (fun _ _ => 0)
            case atStart => exact ⟨rfl, HS4⟩
            case round =>
              obtain ⟨rfl, HS5⟩ := hrel
              clear HS4
              have a5 : wr.cell? ⟨w.heap.size, 5, none⟩ = some (.slice none 0 0) := blk_cell HS5.out.1 5
              go_wp2_with fail
              go_loopw [9] (fun v9 wr => v9 = .int .i64 0 ∧ Hid (wr.heap[w.heap.size]? = some (.cells #[.slice none 0 0, .slice none 0 0, .slice none 0 0, .slice none 0 0, .slice none 0 0, .slice none 0 0, .slice none 0 0, .bool false, .int .u32 0, .slice none 0 0, .bool false, .slice none 0 0, .slice none 0 0, .slice A l.length c] 65 (0, 0)) ∧ wr.heap[w.heap.size + 1]? = some (.cells #[.slice none 0 0, .slice none 0 0, .slice none 0 0, .slice none 0 0, .slice none 0 0, .slice none 0 0, .slice none 0 0, .bool false, .int .u32 0, .slice none 0 0, .bool false, .slice none 0 0, .slice none 0 0, .slice none 0 0] 53 (0, 0)) ∧ wr.heap[MB]? = some (.cells #[.slice none 0 0, .slice none 0 0, .slice fa 0 fc, .slice none 0 0, .slice none 0 0, .slice none 0 0, .slice none 0 0, .bool false, .int .u32 0, .slice none 0 0, .bool false, .slice none 0 0, .slice none 0 0, .slice none 0 0] 53 (0, 0)) ∧ Below W1.heap.size W1 wr)) (fun _ _ => 0)
              case atStart => exact ⟨rfl, HS5⟩
              case round =>
                obtain ⟨rfl, HS6⟩ := hrel
                clear HS5
                have a6 : wr.cell? ⟨w.heap.size, 6, none⟩ = some (.slice none 0 0) := blk_cell HS6.out.1 6
                go_wp2_with fail
                go_loopw [10] (fun v10 wr => v10 = .int .i64 0 ∧ Hid (wr.heap[w.heap.size]? = some (.cells #[.slice none 0 0, .slice none 0 0, .slice none 0 0, .slice none 0 0, .slice none 0 0, .slice none 0 0, .slice none 0 0, .bool false, .int .u32 0, .slice none 0 0, .bool false, .slice none 0 0, .slice none 0 0, .slice A l.length c] 65 (0, 0)) ∧ wr.heap[w.heap.size + 1]? = some (.cells #[.slice none 0 0, .slice none 0 0, .slice none 0 0, .slice none 0 0, .slice none 0 0, .slice none 0 0, .slice none 0 0, .bool false, .int .u32 0, .slice none 0 0, .bool false, .slice none 0 0, .slice none 0 0, .slice none 0 0] 53 (0, 0)) ∧ wr.heap[MB]? = some (.cells #[.slice none 0 0, .slice none 0 0, .slice fa 0 fc, .slice none 0 0, .slice none 0 0, .slice none 0 0, .slice none 0 0, .bool false, .int .u32 0, .slice none 0 0, .bool false, .slice none 0 0, .slice none 0 0, .slice none 0 0] 53 (0, 0)) ∧ Below W1.heap.size W1 wr)) (fun _ _ => 0)
                case atStart => exact ⟨rfl, HS6⟩
                case round =>
                  obtain ⟨rfl, HS7⟩ := hrel
                  clear HS6
                  have a9 : wr.cell? ⟨w.heap.size, 9, none⟩ = some (.slice none 0 0) := blk_cell HS7.out.1 9
                  go_wp2_with fail
                  go_loopw [11] (fun v11 wr => v11 = .int .i64 0 ∧ Hid (wr.heap[w.heap.size]? = some (.cells #[.slice none 0 0, .slice none 0 0, .slice none 0 0, .slice none 0 0, .slice none 0 0, .slice none 0 0, .slice none 0 0, .bool false, .int .u32 0, .slice none 0 0, .bool false, .slice none 0 0, .slice none 0 0, .slice A l.length c] 65 (0, 0)) ∧ wr.heap[w.heap.size + 1]? = some (.cells #[.slice none 0 0, .slice none 0 0, .slice none 0 0, .slice none 0 0, .slice none 0 0, .slice none 0 0, .slice none 0 0, .bool false, .int .u32 0, .slice none 0 0, .bool false, .slice none 0 0, .slice none 0 0, .slice none 0 0] 53 (0, 0)) ∧ wr.heap[MB]? = some (.cells #[.slice none 0 0, .slice none 0 0, .slice fa 0 fc, .slice none 0 0, .slice none 0 0, .slice none 0 0, .slice none 0 0, .bool false, .int .u32 0, .slice none 0 0, .bool false, .slice none 0 0, .slice none 0 0, .slice none 0 0] 53 (0, 0)) ∧ Below W1.heap.size W1 wr)) (fun _ _ => 0)
                  case atStart => exact ⟨rfl, HS7⟩
                  case round =>
                    obtain ⟨rfl, HS8⟩ := hrel
                    clear HS7
                    have a11 : wr.cell? ⟨w.heap.size, 11, none⟩ = some (.slice none 0 0) := blk_cell HS8.out.1 11
                    go_wp2_with fail
                    go_loopw [12] (fun v12 wr => v12 = .int .i64 0 ∧ Hid (wr.heap[w.heap.size]? = some (.cells #[.slice none 0 0, .slice none 0 0, .slice none 0 0, .slice none 0 0, .slice none 0 0, .slice none 0 0, .slice none 0 0, .bool false, .int .u32 0, .slice none 0 0, .bool false, .slice none 0 0, .slice none 0 0, .slice A l.length c] 65 (0, 0)) ∧ wr.heap[w.heap.size + 1]? = some (.cells #[.slice none 0 0, .slice none 0 0, .slice none 0 0, .slice none 0 0, .slice none 0 0, .slice none 0 0, .slice none 0 0, .bool false, .int .u32 0, .slice none 0 0, .bool false, .slice none 0 0, .slice none 0 0, .slice none 0 0] 53 (0, 0)) ∧ wr.heap[MB]? = some (.cells #[.slice none 0 0, .slice none 0 0, .slice fa 0 fc, .slice none 0 0, .slice none 0 0, .slice none 0 0, .slice none 0 0, .bool false, .int .u32 0, .slice none 0 0, .bool false, .slice none 0 0, .slice none 0 0, .slice none 0 0] 53 (0, 0)) ∧ Below W1.heap.size W1 wr)) (fun _ _ => 0)
                    case atStart => exact ⟨rfl, HS8⟩
                    case round =>
                      obtain ⟨rfl, HS9⟩ := hrel
                      clear HS8
                      have a12 : wr.cell? ⟨w.heap.size, 12, none⟩ = some (.slice none 0 0) := blk_cell HS9.out.1 12
                      go_wp2_with fail
                      go_loopw [13] (fun v13 wr => ∃ (i : Nat) (Av : Option Addr) (cv : Nat) (ys : List S91), v13 = .int .i64 i ∧ i ≤ l.length ∧ Hid (ys = l.take i) ∧ Hid (wr.heap[w.heap.size]? = some (.cells #[.slice none 0 0, .slice none 0 0, .slice none 0 0, .slice none 0 0, .slice none 0 0, .slice none 0 0, .slice none 0 0, .bool false, .int .u32 0, .slice none 0 0, .bool false, .slice none 0 0, .slice none 0 0, .slice A l.length c] 65 (0, 0)) ∧ wr.heap[w.heap.size + 1]? = some (.cells #[.slice none 0 0, .slice none 0 0, .slice none 0 0, .slice none 0 0, .slice none 0 0, .slice none 0 0, .slice none 0 0, .bool false, .int .u32 0, .slice none 0 0, .bool false, .slice none 0 0, .slice none 0 0, .slice none 0 0] 53 (0, 0)) ∧ wr.heap[MB]? = some (.cells #[.slice none 0 0, .slice none 0 0, .slice fa 0 fc, .slice none 0 0, .slice none 0 0, .slice none 0 0, .slice none 0 0, .bool false, .int .u32 0, .slice none 0 0, .bool false, .slice none 0 0, .slice none 0 0, .slice Av ys.length cv] 53 (0, 0)) ∧ Below W1.heap.size W1 wr) ∧ Hid (k91.R 91 wr W1.heap.size (fun k => MB < k) (.slice Av ys.length cv) ys)) (fun v13 _ => l.length - (intOf v13).toNat)
                      case atStart => exact ⟨0, none, 0, [], rfl, Nat.zero_le _, hid rfl, HS9, hid (Kd.R_nil _ _ _ _ _)⟩
                      case round =>
                        obtain ⟨i, Av, cv, ys, rfl, hil, HYS, HS, HO⟩ := hrel
                        clear HS9
                        have a13 : wr.cell? ⟨w.heap.size, 13, none⟩ = some (.slice A l.length c) := blk_cell HS.out.1 13
                        have hyl : ys.length = i := by rw [HYS.out, List.length_take]; omega
                        have HYL := hid hyl
                        clear hyl
                        by_cases hi : i < l.length
                        · obtain ⟨ad, rfl, s0, s1, s2⟩ := HA.out.below (HB1.out.trans (HS.out.2.2.2.mono HB1.out.size)) i hi
                          have hadl : ad.block < w.heap.size := by
                            obtain ⟨ad', e, q0, -⟩ := HA.out i hi
                            cases e
                            have := cell_lt' q0
                            rwa [add_block] at this
                          obtain ⟨y, hy⟩ : ∃ y, l[i] = y := ⟨_, rfl⟩
                          rw [hy] at s0 s1 s2
                          have HY := hid hy
                          have b13 : wr.cell? ⟨MB, 13, none⟩ = some (.slice Av ys.length cv) := blk_cell HS.out.2.2.1 13
                          have f13 : wr.frozen? ⟨MB, 13, none⟩ = false := blk_frozen HS.out.2.2.1 13
                          have hi2 : (i : Int) < (l.length : Int) := by omega
                          have hsz : W1.heap.size ≤ wr.heap.size := HS.out.2.2.2.size
                          have hMl : MB < wr.heap.size := blk_lt HS.out.2.2.1
                          have hL := HL.out
                          have HJ := hid (show (ys.length + 1) * 40 ≤ 140737488355328 by have := HYL.out; omega)
                          clear hy
                          go_upto_region 41 with fail
                          have SS := hid (show SCus MB w.heap.size (ad.add (i * 3)) (.slice Av ys.length cv) (.slice (some ad) l.length c) (.int .i64 y.f0) (.string y.f1) (.string y.f2) wr from ⟨b13, f13, a13, s0, s1, s2⟩)
                          refine wp_region_noPanic ?_
                          refine wp_region_heldD 24 (S := (fun W => W.cell? ⟨MB, 13, none⟩ = some (.slice Av ys.length cv) ∧ W.frozen? ⟨MB, 13, none⟩ = false ∧ W.cell? ⟨w.heap.size, 13, none⟩ = some (.slice (some ad) l.length c) ∧ W.cell? (ad.add (i * 3)) = some (.int .i64 y.f0) ∧ W.cell? ⟨(ad.add (i * 3)).block, (ad.add (i * 3)).off + 1, none⟩ = some (.string y.f1) ∧ W.cell? ⟨(ad.add (i * 3)).block, (ad.add (i * 3)).off + 2, none⟩ = some (.string y.f2))) (by kernel_rfl) ?hSc1 (fun hHeld => ?goc1)
                          case hSc1 => exact SS.out
                          refine tkD 0 ⟨some 194, .fieldAddr 53 (.tmp 3) 13, 0, "law.go:42", #[], none⟩ rfl ?_
                          refine tkD 1 ⟨some 195, .load 51 (.tmp 194), 51, "law.go:42", #[⟨0, .data⟩], none⟩ rfl ?_
                          refine tkD 2 ⟨some 196, .fieldAddr 65 (.tmp 1) 13, 0, "law.go:42", #[], none⟩ rfl ?_
                          refine tkD 3 ⟨some 197, .load 22 (.tmp 196), 22, "law.go:42", #[⟨2, .data⟩], none⟩ rfl ?_
                          refine tkD 4 ⟨some 198, .move (.tmp 13), 3, "law.go:42", #[], none⟩ rfl ?_
                          refine tkD 5 ⟨some 199, .indexAddr 22 (.tmp 197) (.tmp 198), 0, "law.go:42", #[⟨3, .data⟩, ⟨4, .data⟩], none⟩ rfl ?_
                          refine tkD 6 ⟨some 200, .fieldAddr 38 (.tmp 199) 0, 0, "law.go:42", #[⟨5, .data⟩], none⟩ rfl ?_
                          refine tkD 7 ⟨some 201, .load 3 (.tmp 200), 3, "law.go:42", #[⟨6, .data⟩], none⟩ rfl ?_
                          refine tkD 8 ⟨some 202, .fieldAddr 65 (.tmp 1) 13, 0, "law.go:42", #[], none⟩ rfl ?_
                          refine tkD 9 ⟨some 203, .load 22 (.tmp 202), 22, "law.go:42", #[⟨8, .data⟩], none⟩ rfl ?_
                          refine tkD 10 ⟨some 204, .move (.tmp 13), 3, "law.go:42", #[], none⟩ rfl ?_
                          refine tkD 11 ⟨some 205, .indexAddr 22 (.tmp 203) (.tmp 204), 0, "law.go:42", #[⟨9, .data⟩, ⟨10, .data⟩], none⟩ rfl ?_
                          refine tkD 12 ⟨some 206, .fieldAddr 38 (.tmp 205) 1, 0, "law.go:42", #[⟨11, .data⟩], none⟩ rfl ?_
                          refine tkD 13 ⟨some 207, .load 9 (.tmp 206), 9, "law.go:42", #[⟨12, .data⟩], none⟩ rfl ?_
                          refine tkD 14 ⟨some 208, .fieldAddr 65 (.tmp 1) 13, 0, "law.go:42", #[], none⟩ rfl ?_
                          refine tkD 15 ⟨some 209, .load 22 (.tmp 208), 22, "law.go:42", #[⟨14, .data⟩], none⟩ rfl ?_
                          refine tkD 16 ⟨some 210, .move (.tmp 13), 3, "law.go:42", #[], none⟩ rfl ?_
                          refine tkD 17 ⟨some 211, .indexAddr 22 (.tmp 209) (.tmp 210), 0, "law.go:42", #[⟨15, .data⟩, ⟨16, .data⟩], none⟩ rfl ?_
                          refine tkD 18 ⟨some 212, .fieldAddr 38 (.tmp 211) 2, 0, "law.go:42", #[⟨17, .data⟩], none⟩ rfl ?_
                          refine tkD 19 ⟨some 213, .load 9 (.tmp 212), 9, "law.go:42", #[⟨18, .data⟩], none⟩ rfl ?_
                          refine tkD 20 ⟨some 214, .build 91 #[(0, .tmp 201), (1, .tmp 207), (2, .tmp 213)], 91, "law.go:42", #[⟨7, .data⟩, ⟨13, .data⟩, ⟨19, .data⟩], none⟩ rfl ?_
                          refine wpAnyD_ready (rs := [21]) (by kernel_rfl) (by simp) ?_
                          refine AllReadyD.cons (o := ⟨some 215, .buildSlice 51 1 #[(0, .tmp 214)], 51, "law.go:42", #[⟨20, .data⟩], none⟩) rfl (fun K hK => ?_) rfl AllReadyD.nil
                          go_simp
                          refine hK.out _ _ ?_ (fun hHeld => ?_)
                          · (try dsimp only); exact SS.out.keep (Below.heap_alloc _ _ _ hMl) (Below.heap_alloc _ _ _ (by omega)) (Below.heap_alloc _ _ _ (by rw [add_block]; omega))
                          clear hK K
                          try simp only [Act.put, List.setIfInBounds_toArray, List.set_cons_zero, List.set_cons_succ]
                          refine wpAnyD_ready (rs := [22]) (by kernel_rfl) (by simp) ?_
                          refine AllReadyD.cons (o := ⟨some 216, .call { callee := .builtin Go.Builtin.append, args := #[.tmp 195, .tmp 215], argTypes := #[51, 51] }, 51, "law.go:42", #[⟨1, .data⟩, ⟨21, .data⟩], none⟩) rfl (fun K hK => ?_) rfl AllReadyD.nil
                          refine Kd.R_append_step k91 (W := wr.drew) (w0 := wr) W1.heap.size (by rfl) (.tmp 195) (.tmp 215) 51 91 (.agg #[.int .i64 0, .string ⟨#[]⟩, .string ⟨#[]⟩]) 40 rfl Tryz.underlying51 info91 rfl (by decide) (by decide) (.slice Av ys.length cv) ys y [.int .i64 y.f0, .string y.f1, .string y.f2] (fun k => MB < k) (fun _ => False) rfl rfl (k91_mkM _ _ _ y) (fun _ hk => hk.elim) (fun k hk => by have : wr.heap.size ≤ k := hk; omega) (Kd.R_drew HO.out) (Below.drew (Below.refl _ _)) hsz HJ.out ?_; intro v1 w12 hR1 hB12 hG12 hat12; obtain ⟨A1, c1, rfl⟩ := Kd.R_slice hR1; rw [show (ys ++ [y]).length = ys.length + 1 by simp] at hR1; have HR1 := hid hR1; have HB12 := hid hB12; have HG12 := hid hG12; clear hR1 hB12 hG12 hat12
                          refine hK.out _ _ ?_ (fun hHeld => ?_)
                          · (try dsimp only); exact SS.out.keep (HG12.out.block MB hMl (fun e => by have := HO.out.1 _ e.symm; omega)) (HG12.out.block _ (show w.heap.size < wr.heap.size by omega) (fun e => by have := HO.out.1 _ e.symm; omega)) (HG12.out.block _ (show (ad.add (i * 3)).block < wr.heap.size by rw [add_block]; omega) (fun e => by have := HO.out.1 _ e.symm; rw [add_block] at this; omega))
                          clear hK K
                          try simp only [Act.put, List.setIfInBounds_toArray, List.set_cons_zero, List.set_cons_succ]
                          refine tkD 23 ⟨some 217, .fieldAddr 53 (.tmp 3) 13, 0, "law.go:42", #[⟨0, .phase⟩, ⟨1, .phase⟩, ⟨2, .phase⟩, ⟨3, .phase⟩, ⟨4, .phase⟩, ⟨5, .phase⟩, ⟨6, .phase⟩, ⟨7, .phase⟩, ⟨8, .phase⟩, ⟨9, .phase⟩, ⟨10, .phase⟩, ⟨11, .phase⟩, ⟨12, .phase⟩, ⟨13, .phase⟩, ⟨14, .phase⟩, ⟨15, .phase⟩, ⟨16, .phase⟩, ⟨17, .phase⟩, ⟨18, .phase⟩, ⟨19, .phase⟩, ⟨20, .phase⟩, ⟨21, .phase⟩, ⟨22, .phase⟩], none⟩ rfl ?_
                          refine wpAnyD_ready (rs := [24]) (by kernel_rfl) (by simp) ?_
                          refine AllReadyD.last (o := ⟨none, .store 51 (.tmp 217) (.tmp 216), 0, "law.go:42", #[⟨23, .data⟩, ⟨22, .data⟩, ⟨22, .chain⟩, ⟨0, .phase⟩, ⟨1, .phase⟩, ⟨2, .phase⟩, ⟨3, .phase⟩, ⟨4, .phase⟩, ⟨5, .phase⟩, ⟨6, .phase⟩, ⟨7, .phase⟩, ⟨8, .phase⟩, ⟨9, .phase⟩, ⟨10, .phase⟩, ⟨11, .phase⟩, ⟨12, .phase⟩, ⟨13, .phase⟩, ⟨14, .phase⟩, ⟨15, .phase⟩, ⟨16, .phase⟩, ⟨17, .phase⟩, ⟨18, .phase⟩, ⟨19, .phase⟩, ⟨20, .phase⟩, ⟨21, .phase⟩, ⟨22, .phase⟩], none⟩) rfl (by kernel_rfl) (fun K hK => ?_)
                          go_simp
                          refine hK.out _ _ ?_
                          clear hK K
                          try simp only [Act.put, List.setIfInBounds_toArray, List.set_cons_zero, List.set_cons_succ]
                          refine NoPanic.normal ?_
                          go_wp2_with fail
                          have hlen : (ys ++ [y]).length = ys.length + 1 := by simp
                          have e12 : ∀ k, k < wr.heap.size → (k = MB ∨ k < W1.heap.size) → w12.heap[k]? = wr.heap[k]? := fun k hk hq => HG12.out.block k hk (fun e => by have := HO.out.1 _ e.symm; omega)
                          refine ⟨⟨i + 1, A1, c1, ys ++ [y], by go_num, by omega, hid (by rw [HYS.out, ← HY.out, List.take_succ_eq_append_getElem hi]), hid ⟨?_, ?_, ?_, ?_⟩, hid ?_⟩, by simp [intOf]; omega⟩
                          · (rw [heap_setCell_other _ _ _ _ (by show w.heap.size ≠ MB; omega), e12 _ (by omega) (.inr (by omega))]; exact HS.out.1)
                          · (rw [heap_setCell_other _ _ _ _ (by show w.heap.size + 1 ≠ MB; omega), e12 _ (by omega) (.inr (by omega))]; exact HS.out.2.1)
                          · (rw [hlen]; exact blk_put ((e12 MB hMl (.inl rfl)).trans HS.out.2.2.1) 13 _ rfl)
                          · exact (HS.out.2.2.2.trans HB12.out).setCell (p := ⟨MB, 13, none⟩) hMB _
                          · (rw [hlen]; exact Kd.R_far HR1.out (p := ⟨MB, 13, none⟩) (fun k hk e => by have : k = MB := e; omega) _)
                        · have hie : i = l.length := by omega
                          have hyl2 : ys = l := by rw [HYS.out, hie, List.take_length]
                          subst hyl2
                          have m0 : wr.cell? ⟨MB, 0, none⟩ = some (.slice none 0 0) := blk_cell HS.out.2.2.1 0
                          have m1 : wr.cell? ⟨MB, 1, none⟩ = some (.slice none 0 0) := blk_cell HS.out.2.2.1 1
                          have m2 : wr.cell? ⟨MB, 2, none⟩ = some (.slice fa 0 fc) := blk_cell HS.out.2.2.1 2
                          have m3 : wr.cell? ⟨MB, 3, none⟩ = some (.slice none 0 0) := blk_cell HS.out.2.2.1 3
                          have m4 : wr.cell? ⟨MB, 4, none⟩ = some (.slice none 0 0) := blk_cell HS.out.2.2.1 4
                          have m5 : wr.cell? ⟨MB, 5, none⟩ = some (.slice none 0 0) := blk_cell HS.out.2.2.1 5
                          have m6 : wr.cell? ⟨MB, 6, none⟩ = some (.slice none 0 0) := blk_cell HS.out.2.2.1 6
                          have m7 : wr.cell? ⟨MB, 7, none⟩ = some (.bool false) := blk_cell HS.out.2.2.1 7
                          have m8 : wr.cell? ⟨MB, 8, none⟩ = some (.int .u32 0) := blk_cell HS.out.2.2.1 8
                          have m9 : wr.cell? ⟨MB, 9, none⟩ = some (.slice none 0 0) := blk_cell HS.out.2.2.1 9
                          have m10 : wr.cell? ⟨MB, 10, none⟩ = some (.bool false) := blk_cell HS.out.2.2.1 10
                          have m11 : wr.cell? ⟨MB, 11, none⟩ = some (.slice none 0 0) := blk_cell HS.out.2.2.1 11
                          have m12 : wr.cell? ⟨MB, 12, none⟩ = some (.slice none 0 0) := blk_cell HS.out.2.2.1 12
                          have m13 : wr.cell? ⟨MB, 13, none⟩ = some (.slice Av ys.length cv) := blk_cell HS.out.2.2.1 13
                          have r0 : wr.cell? ⟨w.heap.size + 1, 0, none⟩ = some (.slice none 0 0) := blk_cell HS.out.2.1 0
                          have q0 := blk_frozen HS.out.2.1 0
                          have r1 : wr.cell? ⟨w.heap.size + 1, 1, none⟩ = some (.slice none 0 0) := blk_cell HS.out.2.1 1
                          have q1 := blk_frozen HS.out.2.1 1
                          have r2 : wr.cell? ⟨w.heap.size + 1, 2, none⟩ = some (.slice none 0 0) := blk_cell HS.out.2.1 2
                          have q2 := blk_frozen HS.out.2.1 2
                          have r3 : wr.cell? ⟨w.heap.size + 1, 3, none⟩ = some (.slice none 0 0) := blk_cell HS.out.2.1 3
                          have q3 := blk_frozen HS.out.2.1 3
                          have r4 : wr.cell? ⟨w.heap.size + 1, 4, none⟩ = some (.slice none 0 0) := blk_cell HS.out.2.1 4
                          have q4 := blk_frozen HS.out.2.1 4
                          have r5 : wr.cell? ⟨w.heap.size + 1, 5, none⟩ = some (.slice none 0 0) := blk_cell HS.out.2.1 5
                          have q5 := blk_frozen HS.out.2.1 5
                          have r6 : wr.cell? ⟨w.heap.size + 1, 6, none⟩ = some (.slice none 0 0) := blk_cell HS.out.2.1 6
                          have q6 := blk_frozen HS.out.2.1 6
                          have r7 : wr.cell? ⟨w.heap.size + 1, 7, none⟩ = some (.bool false) := blk_cell HS.out.2.1 7
                          have q7 := blk_frozen HS.out.2.1 7
                          have r8 : wr.cell? ⟨w.heap.size + 1, 8, none⟩ = some (.int .u32 0) := blk_cell HS.out.2.1 8
                          have q8 := blk_frozen HS.out.2.1 8
                          have r9 : wr.cell? ⟨w.heap.size + 1, 9, none⟩ = some (.slice none 0 0) := blk_cell HS.out.2.1 9
                          have q9 := blk_frozen HS.out.2.1 9
                          have r10 : wr.cell? ⟨w.heap.size + 1, 10, none⟩ = some (.bool false) := blk_cell HS.out.2.1 10
                          have q10 := blk_frozen HS.out.2.1 10
                          have r11 : wr.cell? ⟨w.heap.size + 1, 11, none⟩ = some (.slice none 0 0) := blk_cell HS.out.2.1 11
                          have q11 := blk_frozen HS.out.2.1 11
                          have r12 : wr.cell? ⟨w.heap.size + 1, 12, none⟩ = some (.slice none 0 0) := blk_cell HS.out.2.1 12
                          have q12 := blk_frozen HS.out.2.1 12
                          have r13 : wr.cell? ⟨w.heap.size + 1, 13, none⟩ = some (.slice none 0 0) := blk_cell HS.out.2.1 13
                          have q13 := blk_frozen HS.out.2.1 13
                          go_wp2_with fail
                          obtain ⟨W9, hW9⟩ : ∃ W9, W9 = ((((((((((((((wr.setCell ⟨w.heap.size + 1, 0, none⟩ (.slice none 0 0)).setCell ⟨w.heap.size + 1, 1, none⟩ (.slice none 0 0)).setCell ⟨w.heap.size + 1, 2, none⟩ (.slice fa 0 fc)).setCell ⟨w.heap.size + 1, 3, none⟩ (.slice none 0 0)).setCell ⟨w.heap.size + 1, 4, none⟩ (.slice none 0 0)).setCell ⟨w.heap.size + 1, 5, none⟩ (.slice none 0 0)).setCell ⟨w.heap.size + 1, 6, none⟩ (.slice none 0 0)).setCell ⟨w.heap.size + 1, 7, none⟩ (.bool false)).setCell ⟨w.heap.size + 1, 8, none⟩ (.int .u32 0)).setCell ⟨w.heap.size + 1, 9, none⟩ (.slice none 0 0)).setCell ⟨w.heap.size + 1, 10, none⟩ (.bool false)).setCell ⟨w.heap.size + 1, 11, none⟩ (.slice none 0 0)).setCell ⟨w.heap.size + 1, 12, none⟩ (.slice none 0 0)).setCell ⟨w.heap.size + 1, 13, none⟩ (.slice Av ys.length cv)) := ⟨_, rfl⟩
                          have hblk : W9.heap[w.heap.size + 1]? = some (.cells #[.slice none 0 0, .slice none 0 0, .slice fa 0 fc, .slice none 0 0, .slice none 0 0, .slice none 0 0, .slice none 0 0, .bool false, .int .u32 0, .slice none 0 0, .bool false, .slice none 0 0, .slice none 0 0, .slice Av ys.length cv] 53 (0, 0)) := by rw [hW9]; exact set14 HS.out.2.1 _ _ _ _ _ _ _ _ _ _ _ _ _ _
                          have hb9 : Below w.heap.size w W9 := by rw [hW9]; exact below14 (HB1.out.trans (HS.out.2.2.2.mono HB1.out.size)) (by omega) _ _ _ _ _ _ _ _ _ _ _ _ _ _
                          have hR9 := Kd.R_step HO.out (w1 := W9) (fun k hk _ => by rw [hW9]; exact far14 wr _ k (by omega) _ _ _ _ _ _ _ _ _ _ _ _ _ _)
                          have t0 : W9.cell? ⟨w.heap.size + 1, 0, none⟩ = some (.slice none 0 0) := blk_cell hblk 0
                          have t1 : W9.cell? ⟨w.heap.size + 1, 1, none⟩ = some (.slice none 0 0) := blk_cell hblk 1
                          have t2 : W9.cell? ⟨w.heap.size + 1, 2, none⟩ = some (.slice fa 0 fc) := blk_cell hblk 2
                          have t3 : W9.cell? ⟨w.heap.size + 1, 3, none⟩ = some (.slice none 0 0) := blk_cell hblk 3
                          have t4 : W9.cell? ⟨w.heap.size + 1, 4, none⟩ = some (.slice none 0 0) := blk_cell hblk 4
                          have t5 : W9.cell? ⟨w.heap.size + 1, 5, none⟩ = some (.slice none 0 0) := blk_cell hblk 5
                          have t6 : W9.cell? ⟨w.heap.size + 1, 6, none⟩ = some (.slice none 0 0) := blk_cell hblk 6
                          have t7 : W9.cell? ⟨w.heap.size + 1, 7, none⟩ = some (.bool false) := blk_cell hblk 7
                          have t8 : W9.cell? ⟨w.heap.size + 1, 8, none⟩ = some (.int .u32 0) := blk_cell hblk 8
                          have t9 : W9.cell? ⟨w.heap.size + 1, 9, none⟩ = some (.slice none 0 0) := blk_cell hblk 9
                          have t10 : W9.cell? ⟨w.heap.size + 1, 10, none⟩ = some (.bool false) := blk_cell hblk 10
                          have t11 : W9.cell? ⟨w.heap.size + 1, 11, none⟩ = some (.slice none 0 0) := blk_cell hblk 11
                          have t12 : W9.cell? ⟨w.heap.size + 1, 12, none⟩ = some (.slice none 0 0) := blk_cell hblk 12
                          have t13 : W9.cell? ⟨w.heap.size + 1, 13, none⟩ = some (.slice Av ys.length cv) := blk_cell hblk 13
                          rw [← hW9]
                          obtain ⟨A', c', e', hle, hC⟩ := Kd.R_reads hR9
                          cases e'
                          exact bodyPost_ret (v := .agg #[.slice none 0 0, .slice none 0 0, .slice fa 0 fc, .slice none 0 0, .slice none 0 0, .slice none 0 0, .slice none 0 0, .bool false, .int .u32 0, .slice none 0 0, .bool false, .slice none 0 0, .slice none 0 0, .slice Av ys.length cv]) (by simp [results, Tryz.results9, go_sem, t0, t1, t2, t3, t4, t5, t6, t7, t8, t9, t10, t11, t12, t13]) rfl ⟨fa, fc, Av, cv, rfl, hC, hle, hb9⟩
end Go.Proofs.YtiohiiekaofkbaaGreatDoor
