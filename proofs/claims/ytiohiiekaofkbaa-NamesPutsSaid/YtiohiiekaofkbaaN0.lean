/- The walk of the statement NamesPuts. -/
import Derived.Test.YtiohiiekaofkbaaZP
namespace Go.Proofs.Ytiohiiekaofkbaa
set_option linter.unusedVariables false
set_option linter.unusedSimpArgs false
open Go.RowKit Go.Proofs.Ytiohiiekaofkbaa.PNamesPuts Go.Proofs.YtiohiiekaofkbaaW.PrintWords

theorem keepC6 {p0 p1 p2 p3 p4 p5 : Addr} {a0 a1 a2 a3 a4 a5 : Value} {w W W' : World} {B : Nat} (h : W.cell? p0 = some a0 ∧ W.cell? p1 = some a1 ∧ W.cell? p2 = some a2 ∧ W.cell? p3 = some a3 ∧ W.cell? p4 = some a4 ∧ W.cell? p5 = some a5 ∧ Below B w W ∧ B ≤ W.heap.size) (hb : Below W.heap.size W W') : W'.cell? p0 = some a0 ∧ W'.cell? p1 = some a1 ∧ W'.cell? p2 = some a2 ∧ W'.cell? p3 = some a3 ∧ W'.cell? p4 = some a4 ∧ W'.cell? p5 = some a5 ∧ Below B w W' ∧ B ≤ W'.heap.size :=
  ⟨pw_cell_below hb h.1, pw_cell_below hb h.2.1, pw_cell_below hb h.2.2.1, pw_cell_below hb h.2.2.2.1, pw_cell_below hb h.2.2.2.2.1, pw_cell_below hb h.2.2.2.2.2.1, h.2.2.2.2.2.2.1.trans (hb.mono h.2.2.2.2.2.2.2), Nat.le_trans h.2.2.2.2.2.2.2 hb.size⟩
theorem keepC18 {p0 p1 p2 p3 p4 p5 p6 p7 p8 p9 p10 p11 p12 p13 p14 p15 p16 p17 : Addr} {a0 a1 a2 a3 a4 a5 a6 a7 a8 a9 a10 a11 a12 a13 a14 a15 a16 a17 : Value} {w W W' : World} {B : Nat} (h : W.cell? p0 = some a0 ∧ W.cell? p1 = some a1 ∧ W.cell? p2 = some a2 ∧ W.cell? p3 = some a3 ∧ W.cell? p4 = some a4 ∧ W.cell? p5 = some a5 ∧ W.cell? p6 = some a6 ∧ W.cell? p7 = some a7 ∧ W.cell? p8 = some a8 ∧ W.cell? p9 = some a9 ∧ W.cell? p10 = some a10 ∧ W.cell? p11 = some a11 ∧ W.cell? p12 = some a12 ∧ W.cell? p13 = some a13 ∧ W.cell? p14 = some a14 ∧ W.cell? p15 = some a15 ∧ W.cell? p16 = some a16 ∧ W.cell? p17 = some a17 ∧ Below B w W ∧ B ≤ W.heap.size) (hb : Below W.heap.size W W') : W'.cell? p0 = some a0 ∧ W'.cell? p1 = some a1 ∧ W'.cell? p2 = some a2 ∧ W'.cell? p3 = some a3 ∧ W'.cell? p4 = some a4 ∧ W'.cell? p5 = some a5 ∧ W'.cell? p6 = some a6 ∧ W'.cell? p7 = some a7 ∧ W'.cell? p8 = some a8 ∧ W'.cell? p9 = some a9 ∧ W'.cell? p10 = some a10 ∧ W'.cell? p11 = some a11 ∧ W'.cell? p12 = some a12 ∧ W'.cell? p13 = some a13 ∧ W'.cell? p14 = some a14 ∧ W'.cell? p15 = some a15 ∧ W'.cell? p16 = some a16 ∧ W'.cell? p17 = some a17 ∧ Below B w W' ∧ B ≤ W'.heap.size :=
  ⟨pw_cell_below hb h.1, pw_cell_below hb h.2.1, pw_cell_below hb h.2.2.1, pw_cell_below hb h.2.2.2.1, pw_cell_below hb h.2.2.2.2.1, pw_cell_below hb h.2.2.2.2.2.1, pw_cell_below hb h.2.2.2.2.2.2.1, pw_cell_below hb h.2.2.2.2.2.2.2.1, pw_cell_below hb h.2.2.2.2.2.2.2.2.1, pw_cell_below hb h.2.2.2.2.2.2.2.2.2.1, pw_cell_below hb h.2.2.2.2.2.2.2.2.2.2.1, pw_cell_below hb h.2.2.2.2.2.2.2.2.2.2.2.1, pw_cell_below hb h.2.2.2.2.2.2.2.2.2.2.2.2.1, pw_cell_below hb h.2.2.2.2.2.2.2.2.2.2.2.2.2.1, pw_cell_below hb h.2.2.2.2.2.2.2.2.2.2.2.2.2.2.1, pw_cell_below hb h.2.2.2.2.2.2.2.2.2.2.2.2.2.2.2.1, pw_cell_below hb h.2.2.2.2.2.2.2.2.2.2.2.2.2.2.2.2.1, pw_cell_below hb h.2.2.2.2.2.2.2.2.2.2.2.2.2.2.2.2.2.1, h.2.2.2.2.2.2.2.2.2.2.2.2.2.2.2.2.2.2.1.trans (hb.mono h.2.2.2.2.2.2.2.2.2.2.2.2.2.2.2.2.2.2.2), Nat.le_trans h.2.2.2.2.2.2.2.2.2.2.2.2.2.2.2.2.2.2.2 hb.size⟩

/-- a new variable, at its type's zero -/
def ZeroN (g : Nat) (W : World) : Prop := W.cell? ⟨g, 0, none⟩ = some (.bool false) ∧ W.cell? ⟨g, 1, none⟩ = some (.bool false) ∧ W.cell? ⟨g, 2, none⟩ = some (.bool false) ∧ W.cell? ⟨g, 3, none⟩ = some (.string ⟨#[]⟩) ∧ W.cell? ⟨g, 4, none⟩ = some (.slice none 0 0) ∧ W.cell? ⟨g, 5, none⟩ = some (.slice none 0 0) ∧ W.frozen? ⟨g, 0, none⟩ = false ∧ W.frozen? ⟨g, 1, none⟩ = false ∧ W.frozen? ⟨g, 2, none⟩ = false ∧ W.frozen? ⟨g, 3, none⟩ = false ∧ W.frozen? ⟨g, 4, none⟩ = false ∧ W.frozen? ⟨g, 5, none⟩ = false
theorem ZeroN.new (W : World) : ZeroN W.heap.size (W.alloc (.cells #[.bool false, .bool false, .bool false, .string ⟨#[]⟩, .slice none 0 0, .slice none 0 0] 30)) := by
  have hb : (W.alloc (.cells #[.bool false, .bool false, .bool false, .string ⟨#[]⟩, .slice none 0 0, .slice none 0 0] 30)).heap[W.heap.size]? = some (.cells #[.bool false, .bool false, .bool false, .string ⟨#[]⟩, .slice none 0 0, .slice none 0 0] 30 (0, 0)) := by
    show (W.heap.push _)[W.heap.size]? = _
    rw [Array.getElem?_push_size]
  unfold ZeroN
  exact ⟨blk_cell hb 0, blk_cell hb 1, blk_cell hb 2, blk_cell hb 3, blk_cell hb 4, blk_cell hb 5, blk_frozen hb 0, blk_frozen hb 1, blk_frozen hb 2, blk_frozen hb 3, blk_frozen hb 4, blk_frozen hb 5⟩
theorem stayKept {x : Ns} {A : Option Addr} {c : Nat} {B : Option Addr} {d : Nat} {n : Nat} {W : World} (h : Stay x A c B d n W) : Kept W W (fun k => k < n) := Kept.refl _ _
theorem ZeroN.of {W : World} {p : Addr} {v : Value} {R : Prop} (h : W.cell? p = some v ∧ R) : ZeroN W.heap.size (W.alloc (.cells #[.bool false, .bool false, .bool false, .string ⟨#[]⟩, .slice none 0 0, .slice none 0 0] 30)) := ZeroN.new W
theorem ZeroN.below {g : Nat} {W W' : World} (h : ZeroN g W) (hb : Below W.heap.size W W') : ZeroN g W' := by
  have hl : g < W.heap.size := cell_lt h.1
  have hc : ∀ i, W'.cell? ⟨g, i, none⟩ = W.cell? ⟨g, i, none⟩ := fun i => hb.cell (p := ⟨g, i, none⟩) hl
  have hf : ∀ i, W'.frozen? ⟨g, i, none⟩ = W.frozen? ⟨g, i, none⟩ := fun i => hb.frozen (p := ⟨g, i, none⟩) hl
  unfold ZeroN at h ⊢
  simp only [hc, hf]
  exact h
theorem set6 {W : World} {g : Nat} (b1 b2 b3 : Bool) (m : ByteArray) (vf vl : Value) (h : ZeroN g W) : rBoxN g b1 b2 b3 m vf vl ((((((W.setCell ⟨g, 0, none⟩ (.bool b1)).setCell ⟨g, 1, none⟩ (.bool b2)).setCell ⟨g, 2, none⟩ (.bool b3)).setCell ⟨g, 3, none⟩ (.string m)).setCell ⟨g, 4, none⟩ vf).setCell ⟨g, 5, none⟩ vl) := by
  obtain ⟨h0, h1, h2, h3, h4, h5, _⟩ := h
  have e := World.cell?_setCell_same
  refine ⟨?_, ?_, ?_, ?_, ?_, ?_⟩ <;> simp [World.cell?_setCell_other, World.cell?_setCell_same, h0, h1, h2, h3, h4, h5]
theorem kept6 {W W1 : World} {g : Nat} {S : Nat → Prop} (v0 v1 v2 v3 v4 v5 : Value) (hk : Kept W1 W S) (hg : S g ∨ W1.heap.size ≤ g) : Kept W1 (((((((W.setCell ⟨g, 0, none⟩ v0).setCell ⟨g, 1, none⟩ v1).setCell ⟨g, 2, none⟩ v2).setCell ⟨g, 3, none⟩ v3).setCell ⟨g, 4, none⟩ v4).setCell ⟨g, 5, none⟩ v5)) S :=
  (((((hk.setCell hg v0).setCell hg v1).setCell hg v2).setCell hg v3).setCell hg v4).setCell hg v5
theorem below6 {W w0 : World} {g B : Nat} (v0 v1 v2 v3 v4 v5 : Value) (hk : Below B w0 W) (hg : B ≤ g) : Below B w0 (((((((W.setCell ⟨g, 0, none⟩ v0).setCell ⟨g, 1, none⟩ v1).setCell ⟨g, 2, none⟩ v2).setCell ⟨g, 3, none⟩ v3).setCell ⟨g, 4, none⟩ v4).setCell ⟨g, 5, none⟩ v5)) :=
  (((((hk.setCell hg v0).setCell hg v1).setCell hg v2).setCell hg v3).setCell hg v4).setCell hg v5

theorem keep6k {g q : Nat} {a0 a1 a2 a3 a4 a5 : Value} {w W W' : World} {B : Nat} (h : W.cell? ⟨g, 0, none⟩ = some a0 ∧ W.cell? ⟨g, 1, none⟩ = some a1 ∧ W.cell? ⟨g, 2, none⟩ = some a2 ∧ W.cell? ⟨g, 3, none⟩ = some a3 ∧ W.cell? ⟨g, 4, none⟩ = some a4 ∧ W.cell? ⟨g, 5, none⟩ = some a5 ∧ Below B w W ∧ B ≤ W.heap.size) (hk : Kept W W' (fun k => k = q)) (hq : g ≠ q) (hb : Below B w W') : W'.cell? ⟨g, 0, none⟩ = some a0 ∧ W'.cell? ⟨g, 1, none⟩ = some a1 ∧ W'.cell? ⟨g, 2, none⟩ = some a2 ∧ W'.cell? ⟨g, 3, none⟩ = some a3 ∧ W'.cell? ⟨g, 4, none⟩ = some a4 ∧ W'.cell? ⟨g, 5, none⟩ = some a5 ∧ Below B w W' ∧ B ≤ W'.heap.size :=
  ⟨cell_kept h.1 hk hq, cell_kept h.2.1 hk hq, cell_kept h.2.2.1 hk hq, cell_kept h.2.2.2.1 hk hq, cell_kept h.2.2.2.2.1 hk hq, cell_kept h.2.2.2.2.2.1 hk hq, hb, Nat.le_trans h.2.2.2.2.2.2.2 hk.1⟩

set_option maxRecDepth 100000 in
set_option maxHeartbeats 8000000 in
theorem puts_walk (x y : rNs) (A : Option Addr) (c : Nat) (B : Option Addr) (d : Nat) (A' : Option Addr) (c' : Nat) (B' : Option Addr) (d' : Nat) (w : World) (hx : x.at A c B d w) (hy : y.at A' c' B' d' w) (hxf : x.fine) (hyf : y.fine) :
    Calls Try.prog 3 #[.agg #[.bool x.hm, .bool x.hf, .bool x.hl, .string x.md, .slice A x.fs.length c, .slice B x.ls.length d], .agg #[.bool y.hm, .bool y.hf, .bool y.hl, .string y.md, .slice A' y.fs.length c', .slice B' y.ls.length d']] w fun e w' => e = .returned (.bool true) ∧ Below w.heap.size w w' := by
  have hu := Try.underlying25
  have hu2 := Try.underlying30
  obtain ⟨r1, q1, G1⟩ := great_walk x A c B d w hx hxf
  obtain ⟨r2, q2, G2⟩ := great_walk y A' c' B' d' w hy hyf
  have HG1 := hid G1
  have HG2 := hid G2
  clear G1 G2
  have HX := hid hx
  have HY := hid hy
  have HXF := hid hxf
  have HYF := hid hyf
  have HQ1 := hid q1
  have HQ2 := hid q2
  clear hx hy hxf hyf q1 q2
  go_enter Try.func3, Try.ntmps3
  go_upto_region 1 with (fail)
  obtain ⟨w0, hw0⟩ : ∃ w0, w0 = (w.alloc (.cells #[.bool x.hm, .bool x.hf, .bool x.hl, .string x.md, .slice A x.fs.length c, .slice B x.ls.length d] 25)).alloc (.cells #[.bool y.hm, .bool y.hf, .bool y.hl, .string y.md, .slice A' y.fs.length c', .slice B' y.ls.length d'] 25) := ⟨_, rfl⟩
  have KX := hid (show rBoxN w.heap.size x.hm x.hf x.hl x.md (.slice A x.fs.length c) (.slice B x.ls.length d) w0 by rw [hw0]; exact (rBoxN.new _ _ _ _ _ _ _ _).below (below_alloc (Below.refl _ _) _))
  have KY := hid (show rBoxN (w.heap.size + 1) y.hm y.hf y.hl y.md (.slice A' y.fs.length c') (.slice B' y.ls.length d') w0 by
    rw [hw0]
    have := rBoxN.new (w.alloc (.cells #[.bool x.hm, .bool x.hf, .bool x.hl, .string x.md, .slice A x.fs.length c, .slice B x.ls.length d] 25)) y.hm y.hf y.hl y.md (.slice A' y.fs.length c') (.slice B' y.ls.length d') 25
    simpa using this)
  have KB := hid (show Below w.heap.size w w0 by rw [hw0]; exact below_alloc (below_alloc (Below.refl _ _) _) _)
  have kz : w.heap.size + 1 < w0.heap.size := by rw [hw0]; simp
  rw [← hw0]
  clear hw0
  obtain ⟨x0, x1, x2, x3, x4, x5⟩ := KX.out
  obtain ⟨y0, y1, y2, y3, y4, y5⟩ := KY.out
  cases r1 with
  | true =>
    go_wp2_with (first | (go_at_call 4; (with_reducible refine (HG1.out _ KB.out).mono ?_); rintro e w1 ⟨rfl, hb1⟩))
    go_ret
    exact ⟨rfl, KB.out.trans (hb1.mono KB.out.size)⟩
  | false =>
    cases r2 with
    | true =>
      go_wp2_with (first | (go_at_call 4; (with_reducible refine (HG1.out _ KB.out).mono ?_); rintro e w1 ⟨rfl, hb1⟩; have KB1 := hid (KB.out.trans (hb1.mono KB.out.size)); obtain ⟨hcc, hff⟩ := bcell hb1) | (go_at_call 4; (with_reducible refine (HG2.out _ KB1.out).mono ?_); rintro e w2 ⟨rfl, hb2⟩))
      go_ret
      exact ⟨rfl, KB1.out.trans (hb2.mono KB1.out.size)⟩
    | false =>
      have hxs := HQ1.out rfl
      have hys := HQ2.out rfl
      go_upto_region 3 with (first | (go_at_call 4; (with_reducible refine (HG1.out _ KB.out).mono ?_); rintro e w1 ⟨rfl, hb1⟩; have KB1 := hid (KB.out.trans (hb1.mono KB.out.size)); obtain ⟨hcc, hff⟩ := bcell hb1) | (go_at_call 4; (with_reducible refine (HG2.out _ KB1.out).mono ?_); rintro e w2 ⟨rfl, hb2⟩))
      have KB2 := hid (KB1.out.trans (hb2.mono KB1.out.size))
      have KX2 := hid ((KX.out.below hb1).below hb2)
      have KY2 := hid ((KY.out.below hb1).below hb2)
      have kz2 : w.heap.size + 1 < w2.heap.size := Nat.lt_of_lt_of_le kz (Nat.le_trans hb1.size hb2.size)
      have HO := hid (fun W (h : Below w.heap.size w W) => own14_walk x A c B d W (HX.out.below h) hxs)
      have HR := hid (fun W (h : Below w.heap.size w W) => rright_walk x A c B d W (HX.out.below h) (few_small x hxs HXF.out))
      clear x0 x1 x2 x3 x4 x5 y0 y1 y2 y3 y4 y5 hb1 hb2 hcc hff KX KY KB KB1 kz HG1 HG2 HQ1 HQ2
      obtain ⟨x0, x1, x2, x3, x4, x5⟩ := KX2.out
      have S0 : w2.cell? ⟨w.heap.size, 0, none⟩ = some (.bool x.hm) ∧ w2.cell? ⟨w.heap.size, 1, none⟩ = some (.bool x.hf) ∧ w2.cell? ⟨w.heap.size, 2, none⟩ = some (.bool x.hl) ∧ w2.cell? ⟨w.heap.size, 3, none⟩ = some (.string x.md) ∧ w2.cell? ⟨w.heap.size, 4, none⟩ = some (.slice A x.fs.length c) ∧ w2.cell? ⟨w.heap.size, 5, none⟩ = some (.slice B x.ls.length d) ∧ Below w2.heap.size w2 w2 ∧ w2.heap.size ≤ w2.heap.size := ⟨x0, x1, x2, x3, x4, x5, Below.refl _ _, Nat.le_refl _⟩
      clear x0 x1 x2 x3 x4 x5
      go_cut [5, 6] (fun s5 s6 wx => ∃ (g : Nat) (Ao : Option Addr) (co : Nat) (Bo : Option Addr) (do_ : Nat), s5 = .pointer (some ⟨g, 0, none⟩) ∧ s6 = .bool (rrightB x) ∧ w2.heap.size ≤ g ∧ g < wx.heap.size ∧ Hid (rBoxN g x.own.hm x.own.hf x.own.hl x.own.md (.slice Ao x.own.fs.length co) (.slice Bo x.own.ls.length do_) wx) ∧ Hid (x.own.at Ao co Bo do_ wx) ∧ Hid (Below w2.heap.size w2 wx))
      case first =>
        refine wp_region_noPanic ?_
        refine wp_region_held_drew (S := (fun W => W.cell? ⟨w.heap.size, 0, none⟩ = some (.bool x.hm) ∧ W.cell? ⟨w.heap.size, 1, none⟩ = some (.bool x.hf) ∧ W.cell? ⟨w.heap.size, 2, none⟩ = some (.bool x.hl) ∧ W.cell? ⟨w.heap.size, 3, none⟩ = some (.string x.md) ∧ W.cell? ⟨w.heap.size, 4, none⟩ = some (.slice A x.fs.length c) ∧ W.cell? ⟨w.heap.size, 5, none⟩ = some (.slice B x.ls.length d) ∧ Below w2.heap.size w2 W ∧ w2.heap.size ≤ W.heap.size)) (by kernel_rfl) ?hSr3_1 (fun hHeld => ?gor3_1)
        case hSr3_1 => exact keepC6 S0 (below_drew (Below.refl _ _))
        refine wpAnyH_take (i := 0) (oi := { dst := some 15, op := Go.Op.load 25 (Go.Operand.tmp 2), type := 25, pos := "law.go:76", after := #[], guard := none }) (v := ?_) rfl (by kernel_rfl) (by kernel_rfl) (by kernel_rfl) (fun _ _ _ h => h) (Or.inl ⟨by rfl, ?hyr3_2⟩) (by assumption) ?restr3_2
        case hyr3_2 => (intro w hSw; (try dsimp only at hSw); go_simp; first | (with_reducible rfl) | (rw [if_neg (by omega)]) | skip)
        simp only [Act.put, List.setIfInBounds_toArray, List.set_cons_zero, List.set_cons_succ]
        refine wpAnyH_take (i := 2) (oi := { dst := some 17, op := Go.Op.load 25 (Go.Operand.tmp 2), type := 25, pos := "law.go:76", after := #[], guard := none }) (v := ?_) rfl (by kernel_rfl) (by kernel_rfl) (by kernel_rfl) (fun _ _ _ h => h) (Or.inl ⟨by rfl, ?hyr3_3⟩) (by assumption) ?restr3_3
        case hyr3_3 => (intro w hSw; (try dsimp only at hSw); go_simp; first | (with_reducible rfl) | (rw [if_neg (by omega)]) | skip)
        simp only [Act.put, List.setIfInBounds_toArray, List.set_cons_zero, List.set_cons_succ]
        refine wpAnyH_ready (rs := [1, 4]) (by kernel_rfl) (by simp) ?_
        refine AllReadyH.cons (o := { dst := some 16, op := Go.Op.call { callee := Go.Callee.value (Go.Operand.func 5), args := #[Go.Operand.tmp 15], argTypes := #[25] }, type := 30, pos := "law.go:76", after := #[{ on := 0, ground := Go.Ground.data }], guard := none }) rfl (fun K hK => ?_) ?_
        · go_simp
          go_at_call 5; (with_reducible refine (HO.out _ (KB2.out.trans (hHeld.2.2.2.2.2.2.1.mono KB2.out.size))).mono ?_); rintro e w3 ⟨Ao, co, Bo, do_, rfl, hat, hb1⟩; have HAT := hid hat; have HKO := hid (stayKept hat); (try have HAB := hid (HZ.out.below hb1)); (try have HZ := hid (HZ.out.below hb1)); (try have HZL := hid (hb1.size)); clear hat
          refine hK.out _ _ ?_ (fun hHeld => ?_)
          · (try dsimp only); exact keepC6 hHeld hb1
          clear hK K
          try simp only [Act.put, List.setIfInBounds_toArray, List.set_cons_zero, List.set_cons_succ]
          refine wpAnyH_ready (rs := [3, 4]) (by kernel_rfl) (by simp) ?_
          refine AllReadyH.cons (o := { dst := some 18, op := Go.Op.call { callee := Go.Callee.value (Go.Operand.func 6), args := #[Go.Operand.tmp 17], argTypes := #[25] }, type := 4, pos := "law.go:76", after := #[{ on := 2, ground := Go.Ground.data }, { on := 1, ground := Go.Ground.chain }], guard := none }) rfl (fun K hK => ?_) ?_
          · go_simp
            go_at_call 6; (with_reducible refine (HR.out _ (KB2.out.trans (hHeld.2.2.2.2.2.2.1.mono KB2.out.size))).mono ?_); rintro e w4 ⟨rfl, hb1⟩; have HKO := hid (HKO.out.below hb1); (try have HAB := hid (HZ.out.below hb1)); (try have HZ := hid (HZ.out.below hb1))
            refine hK.out _ _ ?_ (fun hHeld => ?_)
            · (try dsimp only); exact keepC6 hHeld hb1
            clear hK K
            try simp only [Act.put, List.setIfInBounds_toArray, List.set_cons_zero, List.set_cons_succ]
            refine wpAnyH_ready (rs := [4]) (by kernel_rfl) (by simp) ?_
            refine AllReadyH.cons (o := { dst := some 5, op := Go.Op.alloc 30, type := 0, pos := "law.go:76", after := #[], guard := none }) rfl (fun K hK => ?_) AllReadyH.nil
            go_simp
            have HS := hHeld; (try have HKS := HKO); have hgz := hHeld.2.2.2.2.2.2.2; have HZ := hid (ZeroN.of hHeld); (try have HKO := hid (Kept.alloc HKO.out (.cells #[.bool false, .bool false, .bool false, .string ⟨#[]⟩, .slice none 0 0, .slice none 0 0] 30)))
            refine hK.out _ _ ?_ (fun hHeld => ?_)
            · (try dsimp only); exact keepC6 hHeld (below_alloc (Below.refl _ _) _)
            clear hK K
            try simp only [Act.put, List.setIfInBounds_toArray, List.set_cons_zero, List.set_cons_succ]
            refine wpAnyH_ready (rs := [5]) (by kernel_rfl) (by simp) ?_
            refine AllReadyH.cons (o := { dst := none, op := Go.Op.store 30 (Go.Operand.tmp 5) (Go.Operand.tmp 16), type := 0, pos := "law.go:76", after := #[{ on := 4, ground := Go.Ground.data }, { on := 1, ground := Go.Ground.data }, { on := 3, ground := Go.Ground.chain }, { on := 0, ground := Go.Ground.phase }, { on := 1, ground := Go.Ground.phase }, { on := 2, ground := Go.Ground.textOnly Go.Departure.lateStores }, { on := 3, ground := Go.Ground.textOnly Go.Departure.lateStoresUnsure }, { on := 4, ground := Go.Ground.phase }], guard := none }) rfl (fun K hK => ?_) AllReadyH.nil
            obtain ⟨z0, z1, z2, z3, z4, z5, f0, f1, f2, f3, f4, f5⟩ := HZ.out; (try simp only [show ∀ W : World, W.drew.heap.size = W.heap.size from fun _ => rfl] at z0 z1 z2 z3 z4 z5 f0 f1 f2 f3 f4 f5)
            go_simp
            refine hK.out _ _ ?_ (fun hHeld => ?_)
            · (try dsimp only); first | (have HQ := HAB; exact keep6k hHeld (kept6 _ _ _ _ _ _ (Kept.refl _ (fun k => k = _)) (.inl rfl)) (Nat.ne_of_lt (Nat.lt_of_lt_of_le (Nat.lt_of_succ_lt kz2) hgz)) (below6 _ _ _ _ _ _ hHeld.2.2.2.2.2.2.1 hgz)) | exact keepC6 HS (below_alloc (Below.refl _ _) _)
            clear hK K
            try simp only [Act.put, List.setIfInBounds_toArray, List.set_cons_zero, List.set_cons_succ]
            refine wpAnyH_take (i := 6) (oi := { dst := some 6, op := Go.Op.assign (Go.Operand.tmp 18), type := 4, pos := "law.go:76", after := #[{ on := 3, ground := Go.Ground.data }, { on := 5, ground := Go.Ground.chain }, { on := 0, ground := Go.Ground.phase }, { on := 1, ground := Go.Ground.phase }, { on := 2, ground := Go.Ground.phase }, { on := 3, ground := Go.Ground.phase }, { on := 4, ground := Go.Ground.phase }, { on := 5, ground := Go.Ground.phase }], guard := none }) (v := ?_) rfl (by kernel_rfl) (by kernel_rfl) (by kernel_rfl) (fun _ _ _ h => h) (Or.inl ⟨by rfl, ?hyr3_4⟩) (by assumption) ?restr3_4
            case hyr3_4 => (intro w hSw; (try dsimp only at hSw); go_simp; first | (with_reducible rfl) | (rw [if_neg (by omega)]) | skip)
            simp only [Act.put, List.setIfInBounds_toArray, List.set_cons_zero, List.set_cons_succ]
            refine wpAnyH_done (by kernel_rfl) ?_ _
            refine NoPanic.normal ?_
            go_wp2_with fail
            go_meet
            first | (have HQ := HAB; exact ⟨_, Ao, co, Bo, do_, rfl, rfl, hgz, Nat.lt_of_lt_of_le (cell_lt HZ.out.1) (kept6 _ _ _ _ _ _ (Kept.refl _ (fun k => k = _)) (.inl rfl)).1, hid (set6 _ _ _ _ _ _ HZ.out), hid (HAT.out _ (kept6 _ _ _ _ _ _ HKO.out (by first | exact .inr (Nat.le_refl _) | exact .inl (by simp)))), hid hHeld.2.2.2.2.2.2.1⟩) | exact ⟨_, Ao, co, Bo, do_, rfl, rfl, hgz, by simp, hid (rBoxN.new _ _ _ _ _ _ _ _), hid (HAT.out _ (Kept.alloc HKS.out _)), hid hHeld.2.2.2.2.2.2.1⟩
          refine AllReadyH.cons (o := { dst := some 5, op := Go.Op.alloc 30, type := 0, pos := "law.go:76", after := #[], guard := none }) rfl (fun K hK => ?_) ?_
          · go_simp
            have HS := hHeld; (try have HKS := HKO); have hgz := hHeld.2.2.2.2.2.2.2; have HZ := hid (ZeroN.of hHeld); (try have HKO := hid (Kept.alloc HKO.out (.cells #[.bool false, .bool false, .bool false, .string ⟨#[]⟩, .slice none 0 0, .slice none 0 0] 30)))
            refine hK.out _ _ ?_ (fun hHeld => ?_)
            · (try dsimp only); exact keepC6 hHeld (below_alloc (Below.refl _ _) _)
            clear hK K
            try simp only [Act.put, List.setIfInBounds_toArray, List.set_cons_zero, List.set_cons_succ]
            refine wpAnyH_ready (rs := [3]) (by kernel_rfl) (by simp) ?_
            refine AllReadyH.cons (o := { dst := some 18, op := Go.Op.call { callee := Go.Callee.value (Go.Operand.func 6), args := #[Go.Operand.tmp 17], argTypes := #[25] }, type := 4, pos := "law.go:76", after := #[{ on := 2, ground := Go.Ground.data }, { on := 1, ground := Go.Ground.chain }], guard := none }) rfl (fun K hK => ?_) AllReadyH.nil
            go_simp
            go_at_call 6; (with_reducible refine (HR.out _ (KB2.out.trans (hHeld.2.2.2.2.2.2.1.mono KB2.out.size))).mono ?_); rintro e w4 ⟨rfl, hb1⟩; have HKO := hid (HKO.out.below hb1); (try have HAB := hid (HZ.out.below hb1)); (try have HZ := hid (HZ.out.below hb1))
            refine hK.out _ _ ?_ (fun hHeld => ?_)
            · (try dsimp only); exact keepC6 hHeld hb1
            clear hK K
            try simp only [Act.put, List.setIfInBounds_toArray, List.set_cons_zero, List.set_cons_succ]
            refine wpAnyH_ready (rs := [5]) (by kernel_rfl) (by simp) ?_
            refine AllReadyH.cons (o := { dst := none, op := Go.Op.store 30 (Go.Operand.tmp 5) (Go.Operand.tmp 16), type := 0, pos := "law.go:76", after := #[{ on := 4, ground := Go.Ground.data }, { on := 1, ground := Go.Ground.data }, { on := 3, ground := Go.Ground.chain }, { on := 0, ground := Go.Ground.phase }, { on := 1, ground := Go.Ground.phase }, { on := 2, ground := Go.Ground.textOnly Go.Departure.lateStores }, { on := 3, ground := Go.Ground.textOnly Go.Departure.lateStoresUnsure }, { on := 4, ground := Go.Ground.phase }], guard := none }) rfl (fun K hK => ?_) AllReadyH.nil
            obtain ⟨z0, z1, z2, z3, z4, z5, f0, f1, f2, f3, f4, f5⟩ := HZ.out; (try simp only [show ∀ W : World, W.drew.heap.size = W.heap.size from fun _ => rfl] at z0 z1 z2 z3 z4 z5 f0 f1 f2 f3 f4 f5)
            go_simp
            refine hK.out _ _ ?_ (fun hHeld => ?_)
            · (try dsimp only); first | (have HQ := HAB; exact keep6k hHeld (kept6 _ _ _ _ _ _ (Kept.refl _ (fun k => k = _)) (.inl rfl)) (Nat.ne_of_lt (Nat.lt_of_lt_of_le (Nat.lt_of_succ_lt kz2) hgz)) (below6 _ _ _ _ _ _ hHeld.2.2.2.2.2.2.1 hgz)) | exact keepC6 HS (below_alloc (Below.refl _ _) _)
            clear hK K
            try simp only [Act.put, List.setIfInBounds_toArray, List.set_cons_zero, List.set_cons_succ]
            refine wpAnyH_take (i := 6) (oi := { dst := some 6, op := Go.Op.assign (Go.Operand.tmp 18), type := 4, pos := "law.go:76", after := #[{ on := 3, ground := Go.Ground.data }, { on := 5, ground := Go.Ground.chain }, { on := 0, ground := Go.Ground.phase }, { on := 1, ground := Go.Ground.phase }, { on := 2, ground := Go.Ground.phase }, { on := 3, ground := Go.Ground.phase }, { on := 4, ground := Go.Ground.phase }, { on := 5, ground := Go.Ground.phase }], guard := none }) (v := ?_) rfl (by kernel_rfl) (by kernel_rfl) (by kernel_rfl) (fun _ _ _ h => h) (Or.inl ⟨by rfl, ?hyr3_5⟩) (by assumption) ?restr3_5
            case hyr3_5 => (intro w hSw; (try dsimp only at hSw); go_simp; first | (with_reducible rfl) | (rw [if_neg (by omega)]) | skip)
            simp only [Act.put, List.setIfInBounds_toArray, List.set_cons_zero, List.set_cons_succ]
            refine wpAnyH_done (by kernel_rfl) ?_ _
            refine NoPanic.normal ?_
            go_wp2_with fail
            go_meet
            first | (have HQ := HAB; exact ⟨_, Ao, co, Bo, do_, rfl, rfl, hgz, Nat.lt_of_lt_of_le (cell_lt HZ.out.1) (kept6 _ _ _ _ _ _ (Kept.refl _ (fun k => k = _)) (.inl rfl)).1, hid (set6 _ _ _ _ _ _ HZ.out), hid (HAT.out _ (kept6 _ _ _ _ _ _ HKO.out (by first | exact .inr (Nat.le_refl _) | exact .inl (by simp)))), hid hHeld.2.2.2.2.2.2.1⟩) | exact ⟨_, Ao, co, Bo, do_, rfl, rfl, hgz, by simp, hid (rBoxN.new _ _ _ _ _ _ _ _), hid (HAT.out _ (Kept.alloc HKS.out _)), hid hHeld.2.2.2.2.2.2.1⟩
          exact AllReadyH.nil
        refine AllReadyH.cons (o := { dst := some 5, op := Go.Op.alloc 30, type := 0, pos := "law.go:76", after := #[], guard := none }) rfl (fun K hK => ?_) ?_
        · go_simp
          have HS := hHeld; (try have HKS := HKO); have hgz := hHeld.2.2.2.2.2.2.2; have HZ := hid (ZeroN.of hHeld); (try have HKO := hid (Kept.alloc HKO.out (.cells #[.bool false, .bool false, .bool false, .string ⟨#[]⟩, .slice none 0 0, .slice none 0 0] 30)))
          refine hK.out _ _ ?_ (fun hHeld => ?_)
          · (try dsimp only); exact keepC6 hHeld (below_alloc (Below.refl _ _) _)
          clear hK K
          try simp only [Act.put, List.setIfInBounds_toArray, List.set_cons_zero, List.set_cons_succ]
          refine wpAnyH_ready (rs := [1]) (by kernel_rfl) (by simp) ?_
          refine AllReadyH.cons (o := { dst := some 16, op := Go.Op.call { callee := Go.Callee.value (Go.Operand.func 5), args := #[Go.Operand.tmp 15], argTypes := #[25] }, type := 30, pos := "law.go:76", after := #[{ on := 0, ground := Go.Ground.data }], guard := none }) rfl (fun K hK => ?_) AllReadyH.nil
          go_simp
          go_at_call 5; (with_reducible refine (HO.out _ (KB2.out.trans (hHeld.2.2.2.2.2.2.1.mono KB2.out.size))).mono ?_); rintro e w3 ⟨Ao, co, Bo, do_, rfl, hat, hb1⟩; have HAT := hid hat; have HKO := hid (stayKept hat); (try have HAB := hid (HZ.out.below hb1)); (try have HZ := hid (HZ.out.below hb1)); (try have HZL := hid (hb1.size)); clear hat
          refine hK.out _ _ ?_ (fun hHeld => ?_)
          · (try dsimp only); exact keepC6 hHeld hb1
          clear hK K
          try simp only [Act.put, List.setIfInBounds_toArray, List.set_cons_zero, List.set_cons_succ]
          refine wpAnyH_ready (rs := [3]) (by kernel_rfl) (by simp) ?_
          refine AllReadyH.cons (o := { dst := some 18, op := Go.Op.call { callee := Go.Callee.value (Go.Operand.func 6), args := #[Go.Operand.tmp 17], argTypes := #[25] }, type := 4, pos := "law.go:76", after := #[{ on := 2, ground := Go.Ground.data }, { on := 1, ground := Go.Ground.chain }], guard := none }) rfl (fun K hK => ?_) AllReadyH.nil
          go_simp
          go_at_call 6; (with_reducible refine (HR.out _ (KB2.out.trans (hHeld.2.2.2.2.2.2.1.mono KB2.out.size))).mono ?_); rintro e w4 ⟨rfl, hb1⟩; have HKO := hid (HKO.out.below hb1); (try have HAB := hid (HZ.out.below hb1)); (try have HZ := hid (HZ.out.below hb1))
          refine hK.out _ _ ?_ (fun hHeld => ?_)
          · (try dsimp only); exact keepC6 hHeld hb1
          clear hK K
          try simp only [Act.put, List.setIfInBounds_toArray, List.set_cons_zero, List.set_cons_succ]
          refine wpAnyH_ready (rs := [5]) (by kernel_rfl) (by simp) ?_
          refine AllReadyH.cons (o := { dst := none, op := Go.Op.store 30 (Go.Operand.tmp 5) (Go.Operand.tmp 16), type := 0, pos := "law.go:76", after := #[{ on := 4, ground := Go.Ground.data }, { on := 1, ground := Go.Ground.data }, { on := 3, ground := Go.Ground.chain }, { on := 0, ground := Go.Ground.phase }, { on := 1, ground := Go.Ground.phase }, { on := 2, ground := Go.Ground.textOnly Go.Departure.lateStores }, { on := 3, ground := Go.Ground.textOnly Go.Departure.lateStoresUnsure }, { on := 4, ground := Go.Ground.phase }], guard := none }) rfl (fun K hK => ?_) AllReadyH.nil
          obtain ⟨z0, z1, z2, z3, z4, z5, f0, f1, f2, f3, f4, f5⟩ := HZ.out; (try simp only [show ∀ W : World, W.drew.heap.size = W.heap.size from fun _ => rfl] at z0 z1 z2 z3 z4 z5 f0 f1 f2 f3 f4 f5)
          go_simp
          refine hK.out _ _ ?_ (fun hHeld => ?_)
          · (try dsimp only); first | (have HQ := HAB; exact keep6k hHeld (kept6 _ _ _ _ _ _ (Kept.refl _ (fun k => k = _)) (.inl rfl)) (Nat.ne_of_lt (Nat.lt_of_lt_of_le (Nat.lt_of_succ_lt kz2) hgz)) (below6 _ _ _ _ _ _ hHeld.2.2.2.2.2.2.1 hgz)) | exact keepC6 HS (below_alloc (Below.refl _ _) _)
          clear hK K
          try simp only [Act.put, List.setIfInBounds_toArray, List.set_cons_zero, List.set_cons_succ]
          refine wpAnyH_take (i := 6) (oi := { dst := some 6, op := Go.Op.assign (Go.Operand.tmp 18), type := 4, pos := "law.go:76", after := #[{ on := 3, ground := Go.Ground.data }, { on := 5, ground := Go.Ground.chain }, { on := 0, ground := Go.Ground.phase }, { on := 1, ground := Go.Ground.phase }, { on := 2, ground := Go.Ground.phase }, { on := 3, ground := Go.Ground.phase }, { on := 4, ground := Go.Ground.phase }, { on := 5, ground := Go.Ground.phase }], guard := none }) (v := ?_) rfl (by kernel_rfl) (by kernel_rfl) (by kernel_rfl) (fun _ _ _ h => h) (Or.inl ⟨by rfl, ?hyr3_6⟩) (by assumption) ?restr3_6
          case hyr3_6 => (intro w hSw; (try dsimp only at hSw); go_simp; first | (with_reducible rfl) | (rw [if_neg (by omega)]) | skip)
          simp only [Act.put, List.setIfInBounds_toArray, List.set_cons_zero, List.set_cons_succ]
          refine wpAnyH_done (by kernel_rfl) ?_ _
          refine NoPanic.normal ?_
          go_wp2_with fail
          go_meet
          first | (have HQ := HAB; exact ⟨_, Ao, co, Bo, do_, rfl, rfl, hgz, Nat.lt_of_lt_of_le (cell_lt HZ.out.1) (kept6 _ _ _ _ _ _ (Kept.refl _ (fun k => k = _)) (.inl rfl)).1, hid (set6 _ _ _ _ _ _ HZ.out), hid (HAT.out _ (kept6 _ _ _ _ _ _ HKO.out (by first | exact .inr (Nat.le_refl _) | exact .inl (by simp)))), hid hHeld.2.2.2.2.2.2.1⟩) | exact ⟨_, Ao, co, Bo, do_, rfl, rfl, hgz, by simp, hid (rBoxN.new _ _ _ _ _ _ _ _), hid (HAT.out _ (Kept.alloc HKS.out _)), hid hHeld.2.2.2.2.2.2.1⟩
        exact AllReadyH.nil
      case rest =>
        obtain ⟨g, Ao, co, Bo, do_, rfl, rfl, hg1, hg2, KG, KA, KW⟩ := hcut
        have KB3 := hid (KB2.out.trans (KW.out.mono KB2.out.size))
        have KX3 := hid (KX2.out.below KW.out)
        have KY3 := hid (KY2.out.below KW.out)
        have kz3 : w.heap.size + 1 < wc.heap.size := Nat.lt_of_lt_of_le kz2 KW.out.size
        have hre := rright_eq x
        have HPU := hid (put_walk x.own Ao co Bo do_ wc KA.out (own_small x hxs HXF.out) (own_fit x hxs HXF.out))
        rw [← hre] at HPU
        have HRT := hid (fun W (h : Below wc.heap.size wc W) => right_walk x.own Ao co Bo do_ W (KA.out.below h) (own_small x hxs HXF.out))
        rw [← hre] at HRT
        have HOY := hid (fun W (h : Below wc.heap.size wc W) => own14_walk y A' c' B' d' W (HY.out.below (KB3.out.trans (h.mono KB3.out.size))) hys)
        have HSM := hid (fun W A2 c2 B2 d2 (h : Below wc.heap.size wc W) (hy : y.own.at A2 c2 B2 d2 W) => same_walk x.own y.own Ao co Bo do_ A2 c2 B2 d2 W (KA.out.below h) hy (own_small x hxs HXF.out))
        have HRS := hid (fun W (h : Below wc.heap.size wc W) => rsame_walk x y A c B d A' c' B' d' W (HX.out.below (KB3.out.trans (h.mono KB3.out.size))) (HY.out.below (KB3.out.trans (h.mono KB3.out.size))) hxs)
        have HRP := hid (fun W (h : Below wc.heap.size wc W) => rput_walk x A c B d 0 W (HX.out.below (KB3.out.trans (h.mono KB3.out.size))) (few_small x hxs HXF.out) (few_fits x hxs HXF.out) (by omega) (by omega))
        rw [rput_zero x hxs HXF.out] at HRP
        clear hre KX2 KY2 KB2 KW kz2 S0 HO HR
        obtain ⟨bs, hbs⟩ : ∃ b, sameB x.own y.own = b := ⟨_, rfl⟩
        rw [hbs] at HSM HRS
        obtain ⟨ps, hps⟩ : ∃ b, strOfNums (putB x.own) = b := ⟨_, rfl⟩
        rw [hps] at HPU HRP
        clear hbs hps
        obtain ⟨rr, hrr⟩ : ∃ b, rrightB x = b := ⟨_, rfl⟩
        rw [hrr] at HPU HRT ⊢
        clear hrr
        obtain ⟨g0, g1, g2, g3, g4, g5⟩ := KG.out
        cases rr with
        | false =>
          simp only [Bool.false_eq_true, if_false] at HPU
          go_upto_region 5 with (first | (go_at_call 7; (with_reducible refine HPU.out.mono ?_); rintro e w4 ⟨rfl, hb4⟩))
          have S0 : w4.cell? ⟨g, 0, none⟩ = some (.bool x.own.hm) ∧ w4.cell? ⟨g, 1, none⟩ = some (.bool x.own.hf) ∧ w4.cell? ⟨g, 2, none⟩ = some (.bool x.own.hl) ∧ w4.cell? ⟨g, 3, none⟩ = some (.string x.own.md) ∧ w4.cell? ⟨g, 4, none⟩ = some (.slice Ao x.own.fs.length co) ∧ w4.cell? ⟨g, 5, none⟩ = some (.slice Bo x.own.ls.length do_) ∧ w4.cell? ⟨w.heap.size, 0, none⟩ = some (.bool x.hm) ∧ w4.cell? ⟨w.heap.size, 1, none⟩ = some (.bool x.hf) ∧ w4.cell? ⟨w.heap.size, 2, none⟩ = some (.bool x.hl) ∧ w4.cell? ⟨w.heap.size, 3, none⟩ = some (.string x.md) ∧ w4.cell? ⟨w.heap.size, 4, none⟩ = some (.slice A x.fs.length c) ∧ w4.cell? ⟨w.heap.size, 5, none⟩ = some (.slice B x.ls.length d) ∧ w4.cell? ⟨w.heap.size + 1, 0, none⟩ = some (.bool y.hm) ∧ w4.cell? ⟨w.heap.size + 1, 1, none⟩ = some (.bool y.hf) ∧ w4.cell? ⟨w.heap.size + 1, 2, none⟩ = some (.bool y.hl) ∧ w4.cell? ⟨w.heap.size + 1, 3, none⟩ = some (.string y.md) ∧ w4.cell? ⟨w.heap.size + 1, 4, none⟩ = some (.slice A' y.fs.length c') ∧ w4.cell? ⟨w.heap.size + 1, 5, none⟩ = some (.slice B' y.ls.length d') ∧ Below wc.heap.size wc w4 ∧ wc.heap.size ≤ w4.heap.size := by
            obtain ⟨x0, x1, x2, x3, x4, x5⟩ := (KX3.out.below hb4)
            obtain ⟨y0, y1, y2, y3, y4, y5⟩ := (KY3.out.below hb4)
            obtain ⟨z0, z1, z2, z3, z4, z5⟩ := (KG.out.below hb4)
            exact ⟨z0, z1, z2, z3, z4, z5, x0, x1, x2, x3, x4, x5, y0, y1, y2, y3, y4, y5, hb4, hb4.size⟩
          clear g0 g1 g2 g3 g4 g5 HPU hb4
          go_cut [37] (fun s37 wx => s37 = .bool false ∧ Hid (rBoxN w.heap.size x.hm x.hf x.hl x.md (.slice A x.fs.length c) (.slice B x.ls.length d) wx) ∧ Hid (Below wc.heap.size wc wx))
          case first =>
            refine wp_region_noPanic ?_
            refine wp_region_held_drew (S := (fun W => W.cell? ⟨g, 0, none⟩ = some (.bool x.own.hm) ∧ W.cell? ⟨g, 1, none⟩ = some (.bool x.own.hf) ∧ W.cell? ⟨g, 2, none⟩ = some (.bool x.own.hl) ∧ W.cell? ⟨g, 3, none⟩ = some (.string x.own.md) ∧ W.cell? ⟨g, 4, none⟩ = some (.slice Ao x.own.fs.length co) ∧ W.cell? ⟨g, 5, none⟩ = some (.slice Bo x.own.ls.length do_) ∧ W.cell? ⟨w.heap.size, 0, none⟩ = some (.bool x.hm) ∧ W.cell? ⟨w.heap.size, 1, none⟩ = some (.bool x.hf) ∧ W.cell? ⟨w.heap.size, 2, none⟩ = some (.bool x.hl) ∧ W.cell? ⟨w.heap.size, 3, none⟩ = some (.string x.md) ∧ W.cell? ⟨w.heap.size, 4, none⟩ = some (.slice A x.fs.length c) ∧ W.cell? ⟨w.heap.size, 5, none⟩ = some (.slice B x.ls.length d) ∧ W.cell? ⟨w.heap.size + 1, 0, none⟩ = some (.bool y.hm) ∧ W.cell? ⟨w.heap.size + 1, 1, none⟩ = some (.bool y.hf) ∧ W.cell? ⟨w.heap.size + 1, 2, none⟩ = some (.bool y.hl) ∧ W.cell? ⟨w.heap.size + 1, 3, none⟩ = some (.string y.md) ∧ W.cell? ⟨w.heap.size + 1, 4, none⟩ = some (.slice A' y.fs.length c') ∧ W.cell? ⟨w.heap.size + 1, 5, none⟩ = some (.slice B' y.ls.length d') ∧ Below wc.heap.size wc W ∧ wc.heap.size ≤ W.heap.size)) (by kernel_rfl) ?hSf1 (fun hHeld => ?gof1)
            case hSf1 => exact keepC18 S0 (below_drew (Below.refl _ _))
            refine wpAnyH_take (i := 0) (oi := { dst := some 24, op := Go.Op.load 30 (Go.Operand.tmp 5), type := 30, pos := "law.go:78", after := #[], guard := none }) (v := ?_) rfl (by kernel_rfl) (by kernel_rfl) (by kernel_rfl) (fun _ _ _ h => h) (Or.inl ⟨by rfl, ?hyf2⟩) (by assumption) ?restf2
            case hyf2 => (intro w hSw; (try dsimp only at hSw); go_simp; first | (with_reducible rfl) | (rw [if_neg (by omega)]) | skip)
            simp only [Act.put, List.setIfInBounds_toArray, List.set_cons_zero, List.set_cons_succ]
            refine wpAnyH_take (i := 2) (oi := { dst := some 26, op := Go.Op.move (Go.Operand.tmp 6), type := 4, pos := "law.go:78", after := #[], guard := none }) (v := ?_) rfl (by kernel_rfl) (by kernel_rfl) (by kernel_rfl) (fun _ _ _ h => h) (Or.inl ⟨by rfl, ?hyf3⟩) (by assumption) ?restf3
            case hyf3 => (intro w hSw; (try dsimp only at hSw); go_simp; first | (with_reducible rfl) | (rw [if_neg (by omega)]) | skip)
            simp only [Act.put, List.setIfInBounds_toArray, List.set_cons_zero, List.set_cons_succ]
            refine wpAnyH_ready (rs := [1]) (by kernel_rfl) (by simp) ?_
            refine AllReadyH.cons (o := { dst := some 25, op := Go.Op.call { callee := Go.Callee.value (Go.Operand.func 8), args := #[Go.Operand.tmp 24], argTypes := #[30] }, type := 4, pos := "law.go:78", after := #[{ on := 0, ground := Go.Ground.data }], guard := none }) rfl (fun K hK => ?_) AllReadyH.nil
            go_simp
            go_at_call 8; (with_reducible refine (HRT.out _ hHeld.2.2.2.2.2.2.2.2.2.2.2.2.2.2.2.2.2.2.1).mono ?_); rintro e w5 ⟨rfl, hb1⟩
            refine hK.out _ _ ?_ (fun hHeld => ?_)
            · (try dsimp only); exact keepC18 hHeld hb1
            clear hK K
            try simp only [Act.put, List.setIfInBounds_toArray, List.set_cons_zero, List.set_cons_succ]
            refine wpAnyH_take (i := 3) (oi := { dst := some 27, op := Go.Op.binOp Go.BinOp.neq 4 (Go.Operand.tmp 25) (Go.Operand.tmp 26) 4, type := 4, pos := "law.go:78", after := #[{ on := 1, ground := Go.Ground.data }, { on := 2, ground := Go.Ground.data }], guard := none }) (v := ?_) rfl (by kernel_rfl) (by kernel_rfl) (by kernel_rfl) (fun _ _ _ h => h) (Or.inl ⟨by rfl, ?hyf4⟩) (by assumption) ?restf4
            case hyf4 => (intro w hSw; (try dsimp only at hSw); go_simp; first | (with_reducible rfl) | (rw [if_neg (by omega)]) | skip)
            simp only [Act.put, List.setIfInBounds_toArray, List.set_cons_zero, List.set_cons_succ]
            refine wpAnyH_take (i := 4) (oi := { dst := some 28, op := Go.Op.move (Go.Operand.tmp 27), type := 4, pos := "law.go:78", after := #[{ on := 3, ground := Go.Ground.data }, { on := 1, ground := Go.Ground.chain }], guard := none }) (v := ?_) rfl (by kernel_rfl) (by kernel_rfl) (by kernel_rfl) (fun _ _ _ h => h) (Or.inl ⟨by rfl, ?hyf5⟩) (by assumption) ?restf5
            case hyf5 => (intro w hSw; (try dsimp only at hSw); go_simp; first | (with_reducible rfl) | (rw [if_neg (by omega)]) | skip)
            simp only [Act.put, List.setIfInBounds_toArray, List.set_cons_zero, List.set_cons_succ]
            refine wpAnyH_take (i := 5) (oi := { dst := some 29, op := Go.Op.load 30 (Go.Operand.tmp 5), type := 30, pos := "law.go:78", after := #[{ on := 4, ground := Go.Ground.guard }], guard := some (4, false) }) (v := ?_) rfl (by kernel_rfl) (by kernel_rfl) (by kernel_rfl) (fun _ _ _ h => h) (Or.inl ⟨by rfl, ?hyf6⟩) (by assumption) ?restf6
            case hyf6 => (intro w hSw; (try dsimp only at hSw); go_simp; first | (with_reducible rfl) | (rw [if_neg (by omega)]) | skip)
            simp only [Act.put, List.setIfInBounds_toArray, List.set_cons_zero, List.set_cons_succ]
            refine wpAnyH_take (i := 6) (oi := { dst := some 30, op := Go.Op.load 25 (Go.Operand.tmp 3), type := 25, pos := "law.go:78", after := #[{ on := 4, ground := Go.Ground.guard }], guard := some (4, false) }) (v := ?_) rfl (by kernel_rfl) (by kernel_rfl) (by kernel_rfl) (fun _ _ _ h => h) (Or.inl ⟨by rfl, ?hyf7⟩) (by assumption) ?restf7
            case hyf7 => (intro w hSw; (try dsimp only at hSw); go_simp; first | (with_reducible rfl) | (rw [if_neg (by omega)]) | skip)
            simp only [Act.put, List.setIfInBounds_toArray, List.set_cons_zero, List.set_cons_succ]
            refine wpAnyH_take (i := 9) (oi := { dst := some 33, op := Go.Op.load 25 (Go.Operand.tmp 2), type := 25, pos := "law.go:78", after := #[{ on := 4, ground := Go.Ground.guard }], guard := some (4, false) }) (v := ?_) rfl (by kernel_rfl) (by kernel_rfl) (by kernel_rfl) (fun _ _ _ h => h) (Or.inl ⟨by rfl, ?hyf8⟩) (by assumption) ?restf8
            case hyf8 => (intro w hSw; (try dsimp only at hSw); go_simp; first | (with_reducible rfl) | (rw [if_neg (by omega)]) | skip)
            simp only [Act.put, List.setIfInBounds_toArray, List.set_cons_zero, List.set_cons_succ]
            refine wpAnyH_take (i := 10) (oi := { dst := some 34, op := Go.Op.load 25 (Go.Operand.tmp 3), type := 25, pos := "law.go:78", after := #[{ on := 4, ground := Go.Ground.guard }], guard := some (4, false) }) (v := ?_) rfl (by kernel_rfl) (by kernel_rfl) (by kernel_rfl) (fun _ _ _ h => h) (Or.inl ⟨by rfl, ?hyf9⟩) (by assumption) ?restf9
            case hyf9 => (intro w hSw; (try dsimp only at hSw); go_simp; first | (with_reducible rfl) | (rw [if_neg (by omega)]) | skip)
            simp only [Act.put, List.setIfInBounds_toArray, List.set_cons_zero, List.set_cons_succ]
            refine wpAnyH_ready (rs := [7]) (by kernel_rfl) (by simp) ?_
            refine AllReadyH.cons (o := { dst := some 31, op := Go.Op.call { callee := Go.Callee.value (Go.Operand.func 5), args := #[Go.Operand.tmp 30], argTypes := #[25] }, type := 30, pos := "law.go:78", after := #[{ on := 6, ground := Go.Ground.data }, { on := 4, ground := Go.Ground.chain }, { on := 4, ground := Go.Ground.guard }], guard := some (4, false) }) rfl (fun K hK => ?_) AllReadyH.nil
            go_simp
            go_at_call 5; (with_reducible refine (HOY.out _ hHeld.2.2.2.2.2.2.2.2.2.2.2.2.2.2.2.2.2.2.1).mono ?_); rintro e w6 ⟨A2, c2, B2, d2, rfl, hat, hb1⟩; have HAT := hid hat.now; clear hat
            refine hK.out _ _ ?_ (fun hHeld => ?_)
            · (try dsimp only); exact keepC18 hHeld hb1
            clear hK K
            try simp only [Act.put, List.setIfInBounds_toArray, List.set_cons_zero, List.set_cons_succ]
            refine wpAnyH_ready (rs := [8]) (by kernel_rfl) (by simp) ?_
            refine AllReadyH.cons (o := { dst := some 32, op := Go.Op.call { callee := Go.Callee.value (Go.Operand.func 9), args := #[Go.Operand.tmp 29, Go.Operand.tmp 31], argTypes := #[30, 30] }, type := 4, pos := "law.go:78", after := #[{ on := 5, ground := Go.Ground.data }, { on := 7, ground := Go.Ground.data }, { on := 7, ground := Go.Ground.chain }, { on := 4, ground := Go.Ground.guard }], guard := some (4, false) }) rfl (fun K hK => ?_) AllReadyH.nil
            go_simp
            go_at_call 9; (with_reducible refine (HSM.out _ _ _ _ _ hHeld.2.2.2.2.2.2.2.2.2.2.2.2.2.2.2.2.2.2.1 HAT.out).mono ?_); rintro e w7 ⟨rfl, hb1⟩
            refine hK.out _ _ ?_ (fun hHeld => ?_)
            · (try dsimp only); exact keepC18 hHeld hb1
            clear hK K
            try simp only [Act.put, List.setIfInBounds_toArray, List.set_cons_zero, List.set_cons_succ]
            refine wpAnyH_ready (rs := [11]) (by kernel_rfl) (by simp) ?_
            refine AllReadyH.cons (o := { dst := some 35, op := Go.Op.call { callee := Go.Callee.value (Go.Operand.func 10), args := #[Go.Operand.tmp 33, Go.Operand.tmp 34], argTypes := #[25, 25] }, type := 4, pos := "law.go:78", after := #[{ on := 9, ground := Go.Ground.data }, { on := 10, ground := Go.Ground.data }, { on := 8, ground := Go.Ground.chain }, { on := 4, ground := Go.Ground.guard }], guard := some (4, false) }) rfl (fun K hK => ?_) AllReadyH.nil
            go_simp
            go_at_call 10; (with_reducible refine (HRS.out _ hHeld.2.2.2.2.2.2.2.2.2.2.2.2.2.2.2.2.2.2.1).mono ?_); rintro e w8 ⟨rfl, hb1⟩
            refine hK.out _ _ ?_ (fun hHeld => ?_)
            · (try dsimp only); exact keepC18 hHeld hb1
            clear hK K
            try simp only [Act.put, List.setIfInBounds_toArray, List.set_cons_zero, List.set_cons_succ]
            refine wpAnyH_take (i := 12) (oi := { dst := some 36, op := Go.Op.binOp Go.BinOp.neq 4 (Go.Operand.tmp 32) (Go.Operand.tmp 35) 4, type := 4, pos := "law.go:78", after := #[{ on := 8, ground := Go.Ground.data }, { on := 11, ground := Go.Ground.data }, { on := 4, ground := Go.Ground.guard }], guard := some (4, false) }) (v := ?_) rfl (by kernel_rfl) (by kernel_rfl) (by kernel_rfl) (fun _ _ _ h => h) (Or.inl ⟨by rfl, ?hyf10⟩) (by assumption) ?restf10
            case hyf10 => (intro w hSw; (try dsimp only at hSw); go_simp; first | (with_reducible rfl) | (rw [if_neg (by omega)]) | skip)
            simp only [Act.put, List.setIfInBounds_toArray, List.set_cons_zero, List.set_cons_succ]
            refine wpAnyH_take (i := 13) (oi := { dst := some 37, op := Go.Op.pick (Go.Operand.tmp 28) (Go.Operand.const (Go.Value.bool true)) (Go.Operand.tmp 36), type := 4, pos := "law.go:78", after := #[{ on := 4, ground := Go.Ground.data }, { on := 12, ground := Go.Ground.data }], guard := none }) (v := ?_) rfl (by kernel_rfl) (by kernel_rfl) (by kernel_rfl) (fun _ _ _ h => h) (Or.inl ⟨by rfl, ?hyf11⟩) (by assumption) ?restf11
            case hyf11 => (intro w hSw; (try dsimp only at hSw); go_simp; first | (with_reducible rfl) | (rw [if_neg (by omega)]) | skip)
            simp only [Act.put, List.setIfInBounds_toArray, List.set_cons_zero, List.set_cons_succ]
            refine wpAnyH_done (by kernel_rfl) ?_ _
            refine NoPanic.normal ?_
            go_wp2_with fail
            go_meet
            exact ⟨by first | rfl | simp, hid ⟨hHeld.2.2.2.2.2.2.1, hHeld.2.2.2.2.2.2.2.1, hHeld.2.2.2.2.2.2.2.2.1, hHeld.2.2.2.2.2.2.2.2.2.1, hHeld.2.2.2.2.2.2.2.2.2.2.1, hHeld.2.2.2.2.2.2.2.2.2.2.2.1⟩, hid hHeld.2.2.2.2.2.2.2.2.2.2.2.2.2.2.2.2.2.2.1⟩
          case rest =>
            obtain ⟨rfl, KX4, KW4⟩ := hcut
            have KB4 := hid (KB3.out.trans (KW4.out.mono KB3.out.size))
            clear KX3 KY3 KG HRT HOY HSM HRS S0
            go_wp2_with (first | (go_at_call 11; (with_reducible refine (awake14_walk _).mono ?_); rintro e w9 ⟨rfl, hb9⟩))
            go_ret
            exact ⟨rfl, KB4.out.trans (hb9.mono KB4.out.size)⟩
        | true =>
          simp only [if_true] at HPU
          go_upto_region 5 with (first | (go_at_call 7; (with_reducible refine HPU.out.mono ?_); rintro e w4 ⟨rfl, hb4⟩))
          have S0 : w4.cell? ⟨g, 0, none⟩ = some (.bool x.own.hm) ∧ w4.cell? ⟨g, 1, none⟩ = some (.bool x.own.hf) ∧ w4.cell? ⟨g, 2, none⟩ = some (.bool x.own.hl) ∧ w4.cell? ⟨g, 3, none⟩ = some (.string x.own.md) ∧ w4.cell? ⟨g, 4, none⟩ = some (.slice Ao x.own.fs.length co) ∧ w4.cell? ⟨g, 5, none⟩ = some (.slice Bo x.own.ls.length do_) ∧ w4.cell? ⟨w.heap.size, 0, none⟩ = some (.bool x.hm) ∧ w4.cell? ⟨w.heap.size, 1, none⟩ = some (.bool x.hf) ∧ w4.cell? ⟨w.heap.size, 2, none⟩ = some (.bool x.hl) ∧ w4.cell? ⟨w.heap.size, 3, none⟩ = some (.string x.md) ∧ w4.cell? ⟨w.heap.size, 4, none⟩ = some (.slice A x.fs.length c) ∧ w4.cell? ⟨w.heap.size, 5, none⟩ = some (.slice B x.ls.length d) ∧ w4.cell? ⟨w.heap.size + 1, 0, none⟩ = some (.bool y.hm) ∧ w4.cell? ⟨w.heap.size + 1, 1, none⟩ = some (.bool y.hf) ∧ w4.cell? ⟨w.heap.size + 1, 2, none⟩ = some (.bool y.hl) ∧ w4.cell? ⟨w.heap.size + 1, 3, none⟩ = some (.string y.md) ∧ w4.cell? ⟨w.heap.size + 1, 4, none⟩ = some (.slice A' y.fs.length c') ∧ w4.cell? ⟨w.heap.size + 1, 5, none⟩ = some (.slice B' y.ls.length d') ∧ Below wc.heap.size wc w4 ∧ wc.heap.size ≤ w4.heap.size := by
            obtain ⟨x0, x1, x2, x3, x4, x5⟩ := (KX3.out.below hb4)
            obtain ⟨y0, y1, y2, y3, y4, y5⟩ := (KY3.out.below hb4)
            obtain ⟨z0, z1, z2, z3, z4, z5⟩ := (KG.out.below hb4)
            exact ⟨z0, z1, z2, z3, z4, z5, x0, x1, x2, x3, x4, x5, y0, y1, y2, y3, y4, y5, hb4, hb4.size⟩
          clear g0 g1 g2 g3 g4 g5 HPU hb4
          go_cut [37] (fun s37 wx => s37 = .bool false ∧ Hid (rBoxN w.heap.size x.hm x.hf x.hl x.md (.slice A x.fs.length c) (.slice B x.ls.length d) wx) ∧ Hid (Below wc.heap.size wc wx))
          case first =>
            refine wp_region_noPanic ?_
            refine wp_region_held_drew (S := (fun W => W.cell? ⟨g, 0, none⟩ = some (.bool x.own.hm) ∧ W.cell? ⟨g, 1, none⟩ = some (.bool x.own.hf) ∧ W.cell? ⟨g, 2, none⟩ = some (.bool x.own.hl) ∧ W.cell? ⟨g, 3, none⟩ = some (.string x.own.md) ∧ W.cell? ⟨g, 4, none⟩ = some (.slice Ao x.own.fs.length co) ∧ W.cell? ⟨g, 5, none⟩ = some (.slice Bo x.own.ls.length do_) ∧ W.cell? ⟨w.heap.size, 0, none⟩ = some (.bool x.hm) ∧ W.cell? ⟨w.heap.size, 1, none⟩ = some (.bool x.hf) ∧ W.cell? ⟨w.heap.size, 2, none⟩ = some (.bool x.hl) ∧ W.cell? ⟨w.heap.size, 3, none⟩ = some (.string x.md) ∧ W.cell? ⟨w.heap.size, 4, none⟩ = some (.slice A x.fs.length c) ∧ W.cell? ⟨w.heap.size, 5, none⟩ = some (.slice B x.ls.length d) ∧ W.cell? ⟨w.heap.size + 1, 0, none⟩ = some (.bool y.hm) ∧ W.cell? ⟨w.heap.size + 1, 1, none⟩ = some (.bool y.hf) ∧ W.cell? ⟨w.heap.size + 1, 2, none⟩ = some (.bool y.hl) ∧ W.cell? ⟨w.heap.size + 1, 3, none⟩ = some (.string y.md) ∧ W.cell? ⟨w.heap.size + 1, 4, none⟩ = some (.slice A' y.fs.length c') ∧ W.cell? ⟨w.heap.size + 1, 5, none⟩ = some (.slice B' y.ls.length d') ∧ Below wc.heap.size wc W ∧ wc.heap.size ≤ W.heap.size)) (by kernel_rfl) ?hSt1 (fun hHeld => ?got1)
            case hSt1 => exact keepC18 S0 (below_drew (Below.refl _ _))
            refine wpAnyH_take (i := 0) (oi := { dst := some 24, op := Go.Op.load 30 (Go.Operand.tmp 5), type := 30, pos := "law.go:78", after := #[], guard := none }) (v := ?_) rfl (by kernel_rfl) (by kernel_rfl) (by kernel_rfl) (fun _ _ _ h => h) (Or.inl ⟨by rfl, ?hyt2⟩) (by assumption) ?restt2
            case hyt2 => (intro w hSw; (try dsimp only at hSw); go_simp; first | (with_reducible rfl) | (rw [if_neg (by omega)]) | skip)
            simp only [Act.put, List.setIfInBounds_toArray, List.set_cons_zero, List.set_cons_succ]
            refine wpAnyH_take (i := 2) (oi := { dst := some 26, op := Go.Op.move (Go.Operand.tmp 6), type := 4, pos := "law.go:78", after := #[], guard := none }) (v := ?_) rfl (by kernel_rfl) (by kernel_rfl) (by kernel_rfl) (fun _ _ _ h => h) (Or.inl ⟨by rfl, ?hyt3⟩) (by assumption) ?restt3
            case hyt3 => (intro w hSw; (try dsimp only at hSw); go_simp; first | (with_reducible rfl) | (rw [if_neg (by omega)]) | skip)
            simp only [Act.put, List.setIfInBounds_toArray, List.set_cons_zero, List.set_cons_succ]
            refine wpAnyH_ready (rs := [1]) (by kernel_rfl) (by simp) ?_
            refine AllReadyH.cons (o := { dst := some 25, op := Go.Op.call { callee := Go.Callee.value (Go.Operand.func 8), args := #[Go.Operand.tmp 24], argTypes := #[30] }, type := 4, pos := "law.go:78", after := #[{ on := 0, ground := Go.Ground.data }], guard := none }) rfl (fun K hK => ?_) AllReadyH.nil
            go_simp
            go_at_call 8; (with_reducible refine (HRT.out _ hHeld.2.2.2.2.2.2.2.2.2.2.2.2.2.2.2.2.2.2.1).mono ?_); rintro e w5 ⟨rfl, hb1⟩
            refine hK.out _ _ ?_ (fun hHeld => ?_)
            · (try dsimp only); exact keepC18 hHeld hb1
            clear hK K
            try simp only [Act.put, List.setIfInBounds_toArray, List.set_cons_zero, List.set_cons_succ]
            refine wpAnyH_take (i := 3) (oi := { dst := some 27, op := Go.Op.binOp Go.BinOp.neq 4 (Go.Operand.tmp 25) (Go.Operand.tmp 26) 4, type := 4, pos := "law.go:78", after := #[{ on := 1, ground := Go.Ground.data }, { on := 2, ground := Go.Ground.data }], guard := none }) (v := ?_) rfl (by kernel_rfl) (by kernel_rfl) (by kernel_rfl) (fun _ _ _ h => h) (Or.inl ⟨by rfl, ?hyt4⟩) (by assumption) ?restt4
            case hyt4 => (intro w hSw; (try dsimp only at hSw); go_simp; first | (with_reducible rfl) | (rw [if_neg (by omega)]) | skip)
            simp only [Act.put, List.setIfInBounds_toArray, List.set_cons_zero, List.set_cons_succ]
            refine wpAnyH_take (i := 4) (oi := { dst := some 28, op := Go.Op.move (Go.Operand.tmp 27), type := 4, pos := "law.go:78", after := #[{ on := 3, ground := Go.Ground.data }, { on := 1, ground := Go.Ground.chain }], guard := none }) (v := ?_) rfl (by kernel_rfl) (by kernel_rfl) (by kernel_rfl) (fun _ _ _ h => h) (Or.inl ⟨by rfl, ?hyt5⟩) (by assumption) ?restt5
            case hyt5 => (intro w hSw; (try dsimp only at hSw); go_simp; first | (with_reducible rfl) | (rw [if_neg (by omega)]) | skip)
            simp only [Act.put, List.setIfInBounds_toArray, List.set_cons_zero, List.set_cons_succ]
            refine wpAnyH_take (i := 5) (oi := { dst := some 29, op := Go.Op.load 30 (Go.Operand.tmp 5), type := 30, pos := "law.go:78", after := #[{ on := 4, ground := Go.Ground.guard }], guard := some (4, false) }) (v := ?_) rfl (by kernel_rfl) (by kernel_rfl) (by kernel_rfl) (fun _ _ _ h => h) (Or.inl ⟨by rfl, ?hyt6⟩) (by assumption) ?restt6
            case hyt6 => (intro w hSw; (try dsimp only at hSw); go_simp; first | (with_reducible rfl) | (rw [if_neg (by omega)]) | skip)
            simp only [Act.put, List.setIfInBounds_toArray, List.set_cons_zero, List.set_cons_succ]
            refine wpAnyH_take (i := 6) (oi := { dst := some 30, op := Go.Op.load 25 (Go.Operand.tmp 3), type := 25, pos := "law.go:78", after := #[{ on := 4, ground := Go.Ground.guard }], guard := some (4, false) }) (v := ?_) rfl (by kernel_rfl) (by kernel_rfl) (by kernel_rfl) (fun _ _ _ h => h) (Or.inl ⟨by rfl, ?hyt7⟩) (by assumption) ?restt7
            case hyt7 => (intro w hSw; (try dsimp only at hSw); go_simp; first | (with_reducible rfl) | (rw [if_neg (by omega)]) | skip)
            simp only [Act.put, List.setIfInBounds_toArray, List.set_cons_zero, List.set_cons_succ]
            refine wpAnyH_take (i := 9) (oi := { dst := some 33, op := Go.Op.load 25 (Go.Operand.tmp 2), type := 25, pos := "law.go:78", after := #[{ on := 4, ground := Go.Ground.guard }], guard := some (4, false) }) (v := ?_) rfl (by kernel_rfl) (by kernel_rfl) (by kernel_rfl) (fun _ _ _ h => h) (Or.inl ⟨by rfl, ?hyt8⟩) (by assumption) ?restt8
            case hyt8 => (intro w hSw; (try dsimp only at hSw); go_simp; first | (with_reducible rfl) | (rw [if_neg (by omega)]) | skip)
            simp only [Act.put, List.setIfInBounds_toArray, List.set_cons_zero, List.set_cons_succ]
            refine wpAnyH_take (i := 10) (oi := { dst := some 34, op := Go.Op.load 25 (Go.Operand.tmp 3), type := 25, pos := "law.go:78", after := #[{ on := 4, ground := Go.Ground.guard }], guard := some (4, false) }) (v := ?_) rfl (by kernel_rfl) (by kernel_rfl) (by kernel_rfl) (fun _ _ _ h => h) (Or.inl ⟨by rfl, ?hyt9⟩) (by assumption) ?restt9
            case hyt9 => (intro w hSw; (try dsimp only at hSw); go_simp; first | (with_reducible rfl) | (rw [if_neg (by omega)]) | skip)
            simp only [Act.put, List.setIfInBounds_toArray, List.set_cons_zero, List.set_cons_succ]
            refine wpAnyH_ready (rs := [7]) (by kernel_rfl) (by simp) ?_
            refine AllReadyH.cons (o := { dst := some 31, op := Go.Op.call { callee := Go.Callee.value (Go.Operand.func 5), args := #[Go.Operand.tmp 30], argTypes := #[25] }, type := 30, pos := "law.go:78", after := #[{ on := 6, ground := Go.Ground.data }, { on := 4, ground := Go.Ground.chain }, { on := 4, ground := Go.Ground.guard }], guard := some (4, false) }) rfl (fun K hK => ?_) AllReadyH.nil
            go_simp
            go_at_call 5; (with_reducible refine (HOY.out _ hHeld.2.2.2.2.2.2.2.2.2.2.2.2.2.2.2.2.2.2.1).mono ?_); rintro e w6 ⟨A2, c2, B2, d2, rfl, hat, hb1⟩; have HAT := hid hat.now; clear hat
            refine hK.out _ _ ?_ (fun hHeld => ?_)
            · (try dsimp only); exact keepC18 hHeld hb1
            clear hK K
            try simp only [Act.put, List.setIfInBounds_toArray, List.set_cons_zero, List.set_cons_succ]
            refine wpAnyH_ready (rs := [8]) (by kernel_rfl) (by simp) ?_
            refine AllReadyH.cons (o := { dst := some 32, op := Go.Op.call { callee := Go.Callee.value (Go.Operand.func 9), args := #[Go.Operand.tmp 29, Go.Operand.tmp 31], argTypes := #[30, 30] }, type := 4, pos := "law.go:78", after := #[{ on := 5, ground := Go.Ground.data }, { on := 7, ground := Go.Ground.data }, { on := 7, ground := Go.Ground.chain }, { on := 4, ground := Go.Ground.guard }], guard := some (4, false) }) rfl (fun K hK => ?_) AllReadyH.nil
            go_simp
            go_at_call 9; (with_reducible refine (HSM.out _ _ _ _ _ hHeld.2.2.2.2.2.2.2.2.2.2.2.2.2.2.2.2.2.2.1 HAT.out).mono ?_); rintro e w7 ⟨rfl, hb1⟩
            refine hK.out _ _ ?_ (fun hHeld => ?_)
            · (try dsimp only); exact keepC18 hHeld hb1
            clear hK K
            try simp only [Act.put, List.setIfInBounds_toArray, List.set_cons_zero, List.set_cons_succ]
            refine wpAnyH_ready (rs := [11]) (by kernel_rfl) (by simp) ?_
            refine AllReadyH.cons (o := { dst := some 35, op := Go.Op.call { callee := Go.Callee.value (Go.Operand.func 10), args := #[Go.Operand.tmp 33, Go.Operand.tmp 34], argTypes := #[25, 25] }, type := 4, pos := "law.go:78", after := #[{ on := 9, ground := Go.Ground.data }, { on := 10, ground := Go.Ground.data }, { on := 8, ground := Go.Ground.chain }, { on := 4, ground := Go.Ground.guard }], guard := some (4, false) }) rfl (fun K hK => ?_) AllReadyH.nil
            go_simp
            go_at_call 10; (with_reducible refine (HRS.out _ hHeld.2.2.2.2.2.2.2.2.2.2.2.2.2.2.2.2.2.2.1).mono ?_); rintro e w8 ⟨rfl, hb1⟩
            refine hK.out _ _ ?_ (fun hHeld => ?_)
            · (try dsimp only); exact keepC18 hHeld hb1
            clear hK K
            try simp only [Act.put, List.setIfInBounds_toArray, List.set_cons_zero, List.set_cons_succ]
            refine wpAnyH_take (i := 12) (oi := { dst := some 36, op := Go.Op.binOp Go.BinOp.neq 4 (Go.Operand.tmp 32) (Go.Operand.tmp 35) 4, type := 4, pos := "law.go:78", after := #[{ on := 8, ground := Go.Ground.data }, { on := 11, ground := Go.Ground.data }, { on := 4, ground := Go.Ground.guard }], guard := some (4, false) }) (v := ?_) rfl (by kernel_rfl) (by kernel_rfl) (by kernel_rfl) (fun _ _ _ h => h) (Or.inl ⟨by rfl, ?hyt10⟩) (by assumption) ?restt10
            case hyt10 => (intro w hSw; (try dsimp only at hSw); go_simp; first | (with_reducible rfl) | (rw [if_neg (by omega)]) | skip)
            simp only [Act.put, List.setIfInBounds_toArray, List.set_cons_zero, List.set_cons_succ]
            refine wpAnyH_take (i := 13) (oi := { dst := some 37, op := Go.Op.pick (Go.Operand.tmp 28) (Go.Operand.const (Go.Value.bool true)) (Go.Operand.tmp 36), type := 4, pos := "law.go:78", after := #[{ on := 4, ground := Go.Ground.data }, { on := 12, ground := Go.Ground.data }], guard := none }) (v := ?_) rfl (by kernel_rfl) (by kernel_rfl) (by kernel_rfl) (fun _ _ _ h => h) (Or.inl ⟨by rfl, ?hyt11⟩) (by assumption) ?restt11
            case hyt11 => (intro w hSw; (try dsimp only at hSw); go_simp; first | (with_reducible rfl) | (rw [if_neg (by omega)]) | skip)
            simp only [Act.put, List.setIfInBounds_toArray, List.set_cons_zero, List.set_cons_succ]
            refine wpAnyH_done (by kernel_rfl) ?_ _
            refine NoPanic.normal ?_
            go_wp2_with fail
            go_meet
            exact ⟨by first | rfl | simp, hid ⟨hHeld.2.2.2.2.2.2.1, hHeld.2.2.2.2.2.2.2.1, hHeld.2.2.2.2.2.2.2.2.1, hHeld.2.2.2.2.2.2.2.2.2.1, hHeld.2.2.2.2.2.2.2.2.2.2.1, hHeld.2.2.2.2.2.2.2.2.2.2.2.1⟩, hid hHeld.2.2.2.2.2.2.2.2.2.2.2.2.2.2.2.2.2.2.1⟩
          case rest =>
            obtain ⟨rfl, KX4, KW4⟩ := hcut
            have KB4 := hid (KB3.out.trans (KW4.out.mono KB3.out.size))
            clear KX3 KY3 KG HRT HOY HSM HRS S0
            obtain ⟨x0, x1, x2, x3, x4, x5⟩ := KX4.out
            go_wp2_with (first | (go_at_call 12; (with_reducible refine (HRP.out _ KW4.out).mono ?_); rintro e w9 ⟨rfl, hb9⟩) | (go_at_call 11; (with_reducible refine (awake14_walk _).mono ?_); rintro e w10 ⟨rfl, hb10⟩))
            go_ret
            exact ⟨rfl, (KB4.out.trans (hb9.mono KB4.out.size)).trans (hb10.mono (Nat.le_trans KB4.out.size hb9.size))⟩
end Go.Proofs.Ytiohiiekaofkbaa
