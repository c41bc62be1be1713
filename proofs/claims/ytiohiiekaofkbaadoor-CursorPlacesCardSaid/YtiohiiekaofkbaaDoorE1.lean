/- What asked changes: the cursor, the variable of the answers, their row. -/
import Derived.Test.YtiohiiekaofkbaaDoorD7
import Derived.Test.YtiohiiekaofkbaaDoorC6
import Derived.Test.YtiohiiekaofkbaaDoorC9
namespace Go.Proofs.YtiohiiekaofkbaaDoor
set_option linter.unusedVariables false
set_option linter.unusedSimpArgs false
open Go.RowKit Go.Proofs.YtiohiiekaofkbaaDoor.PCursorPlaces Go.Proofs.YtiohiiekaofkbaaDoorW.PrintWords

def RowB (w : World) (og k : Nat) : Prop := ∃ v, w.cell? ⟨og, 0, none⟩ = some v ∧ v.ownBlock = some k
structure Fo (g og : Nat) (w w' : World) : Prop where
  os : w'.os = w.os
  tape : w'.tape = w.tape
  output : w'.output = w.output
  size : w.heap.size ≤ w'.heap.size
  keep : ∀ k, k < w.heap.size → k ≠ g → k ≠ og → ¬ RowB w og k → w'.heap[k]? = w.heap[k]?
  row : ∀ k, RowB w' og k → RowB w og k ∨ w.heap.size ≤ k
theorem Fo.refl (g og : Nat) (w : World) : Fo g og w w := ⟨rfl, rfl, rfl, Nat.le_refl _, fun _ _ _ _ _ => rfl, fun _ h => .inl h⟩
theorem Fo.trans {g og : Nat} {a b c : World} (h : Fo g og a b) (k : Fo g og b c) : Fo g og a c :=
  ⟨k.os.trans h.os, k.tape.trans h.tape, k.output.trans h.output, Nat.le_trans h.size k.size, fun j hj h1 h2 h3 =>
    (k.keep j (Nat.lt_of_lt_of_le hj h.size) h1 h2 (fun q => (h.row j q).elim h3 (fun z => by omega))).trans (h.keep j hj h1 h2 h3),
   fun j q => (k.row j q).elim (fun z => h.row j z) (fun z => .inr (Nat.le_trans h.size z))⟩
theorem RowB.of_cell {w w' : World} {og k : Nat} (e : w'.cell? ⟨og, 0, none⟩ = w.cell? ⟨og, 0, none⟩) : RowB w' og k ↔ RowB w og k := by unfold RowB; rw [e]
theorem Fo.of_rd {g og : Nat} {w w' : World} (hne : og ≠ g) (hog : og < w.heap.size) (h : Rd g w w') : Fo g og w w' :=
  ⟨h.os, h.tape, h.output, h.size, fun k hk h1 _ _ => h.block k hk (fun q => h1 (Option.some.inj q)), fun k q => .inl ((RowB.of_cell (World.cell?_of_block (a := ⟨og, 0, none⟩) (h.block og hog (fun q => hne (Option.some.inj q))))).1 q)⟩
theorem Fo.cell {g og b i : Nat} {w w' : World} {v : Value} (h : Fo g og w w') (h1 : b ≠ g) (h2 : b ≠ og) (h3 : ¬ RowB w og b) (hc : w.cell? ⟨b, i, none⟩ = some v) : w'.cell? ⟨b, i, none⟩ = some v := by
  rw [World.cell?_of_block (a := ⟨b, i, none⟩) (h.keep b (cell_lt hc) h1 h2 h3)]; exact hc
/-- a block beside: not the cursor's, not the answers' -/
structure Beside (g og b : Nat) (w : World) : Prop where
  lt : b < w.heap.size
  ng : b ≠ g
  no : b ≠ og
  nr : ¬ RowB w og b
theorem Beside.fo {g og b : Nat} {w w' : World} (h : Beside g og b w) (k : Fo g og w w') : Beside g og b w' :=
  ⟨Nat.lt_of_lt_of_le h.lt k.size, h.ng, h.no, fun q => (k.row b q).elim h.nr (fun z => absurd h.lt (by omega))⟩
theorem Beside.cell {g og b i : Nat} {w w' : World} {v : Value} (h : Beside g og b w) (k : Fo g og w w') (hc : w.cell? ⟨b, i, none⟩ = some v) : w'.cell? ⟨b, i, none⟩ = some v := k.cell h.ng h.no h.nr hc

/-- how it stands between two asks -/
structure Ast (w1 : World) (g og n : Nat) (A : Option Addr) (c : Nat) (l : List Int) (p lim : Int) (w : World) : Prop where
  cb : CB g A c l p lim w
  ex : ∃ v xs, w.cell? ⟨og, 0, none⟩ = some v ∧ w.ownsRow w1.heap.size 9 1 v n xs
  fz : w.frozen? ⟨og, 0, none⟩ = false
  hb : Below w1.heap.size w1 w
  g0 : w1.heap.size ≤ g
  o0 : w1.heap.size ≤ og
  go : og ≠ g
  ng : ¬ RowB w og g
  no : ¬ RowB w og og
  lm : lim < 0 ∨ p ≤ lim
  ab : ∀ ad, A = some ad → ad.block < w1.heap.size
theorem Ast.olt {w1 : World} {g og n : Nat} {A : Option Addr} {c : Nat} {l : List Int} {p lim : Int} {w : World} (h : Ast w1 g og n A c l p lim w) : og < w.heap.size := by
  obtain ⟨v, xs, h1, _⟩ := h.ex
  exact cell_lt h1
theorem Ast.rowlt {w1 : World} {g og n k : Nat} {A : Option Addr} {c : Nat} {l : List Int} {p lim : Int} {w : World} (h : Ast w1 g og n A c l p lim w) (hk : RowB w og k) : w1.heap.size ≤ k ∧ k < w.heap.size := by
  obtain ⟨v, xs, h1, h2⟩ := h.ex
  obtain ⟨v', e, hv⟩ := hk
  rw [h1] at e; cases e
  exact h2.lt k hv
theorem below_fo {w1 : World} {g og : Nat} {w w' : World} (hb : Below w1.heap.size w1 w) (g0 : w1.heap.size ≤ g) (o0 : w1.heap.size ≤ og) (hr : ∀ k, RowB w og k → w1.heap.size ≤ k) (k : Fo g og w w') : Below w1.heap.size w1 w' :=
  ⟨k.os.trans hb.os, k.tape.trans hb.tape, k.output.trans hb.output, Nat.le_trans hb.size k.size, fun j hj => (k.keep j (Nat.lt_of_lt_of_le hj hb.size) (by omega) (by omega) (fun q => by have := hr j q; omega)).trans (hb.block j hj)⟩
/-- a step of the cursor alone -/
theorem Ast.rd {w1 : World} {g og n : Nat} {A : Option Addr} {c : Nat} {l : List Int} {p lim p' lim' : Int} {w w' : World} (h : Ast w1 g og n A c l p lim w) (hR : Rd g w w') (hC : CB g A c l p' lim' w') (hl : lim' < 0 ∨ p' ≤ lim') : Ast w1 g og n A c l p' lim' w' := by
  obtain ⟨v, xs, h1, h2⟩ := h.ex
  have e : w'.heap[og]? = w.heap[og]? := hR.block og (cell_lt h1) (fun q => h.go (Option.some.inj q))
  have ec : w'.cell? ⟨og, 0, none⟩ = w.cell? ⟨og, 0, none⟩ := World.cell?_of_block (a := ⟨og, 0, none⟩) e
  refine ⟨hC, ⟨v, xs, ec.trans h1, h2.kept hR (.inr (fun q => h.ng ⟨v, h1, q⟩))⟩, (World.frozen?_of_block (a := ⟨og, 0, none⟩) e).trans h.fz, below_rd h.hb h.g0 hR, h.g0, h.o0, h.go, fun q => h.ng ((RowB.of_cell ec).1 q), fun q => h.no ((RowB.of_cell ec).1 q), hl, h.ab⟩
theorem Ast.fo {w1 : World} {g og n : Nat} {A : Option Addr} {c : Nat} {l : List Int} {p lim : Int} {w w' : World} (h : Ast w1 g og n A c l p lim w) (hR : Rd g w w') : Fo g og w w' := Fo.of_rd h.go h.olt hR
/-- m answers more: from w the cursor alone changed up to W; then the row grew, then it was stored -/
theorem Ast.out {w1 : World} {g og n m : Nat} {A : Option Addr} {c : Nat} {l : List Int} {p lim p' : Int} {w W wa : World} {v : Value} {ys : List Value} {ga cap : Nat} (h : Ast w1 g og n A c l p lim w) (hv : w.cell? ⟨og, 0, none⟩ = some v) (hR : Rd g w W) (hC : CB g A c l p' lim W) (hl : lim < 0 ∨ p' ≤ lim)
    (hown : wa.ownsRow w1.heap.size 9 1 (.slice (some ⟨ga, 0, none⟩) (n + m) cap) (n + m) ys) (hgrow : W.grownBy wa v.ownBlock) (hat : v.ownBlock = some ga ∨ ga = W.heap.size) (hlt : ga < wa.heap.size) :
    Ast w1 g og (n + m) A c l p' lim (wa.setCell ⟨og, 0, none⟩ (.slice (some ⟨ga, 0, none⟩) (n + m) cap)) ∧ Fo g og w (wa.setCell ⟨og, 0, none⟩ (.slice (some ⟨ga, 0, none⟩) (n + m) cap)) := by
  have hW := h.rd hR hC hl
  have hov : og < W.heap.size := hW.olt
  have ecW : W.cell? ⟨og, 0, none⟩ = some v := by
    rw [World.cell?_of_block (a := ⟨og, 0, none⟩) (hR.block og h.olt (fun q => h.go (Option.some.inj q)))]; exact hv
  have nrow : ∀ k, v.ownBlock = some k → k ≠ g ∧ k ≠ og ∧ w1.heap.size ≤ k ∧ k < W.heap.size := fun k hk =>
    ⟨fun q => hW.ng ⟨v, ecW, q ▸ hk⟩, fun q => hW.no ⟨v, ecW, q ▸ hk⟩, (hW.rowlt ⟨v, ecW, hk⟩).1, (hW.rowlt ⟨v, ecW, hk⟩).2⟩
  have hgl : g < W.heap.size := hC.cu.lt
  have gago : ga ≠ og ∧ ga ≠ g ∧ (RowB w og ga ∨ w.heap.size ≤ ga) := by
    rcases hat with q | q
    · have := nrow ga q
      exact ⟨this.2.1, this.1, .inl ⟨v, hv, q⟩⟩
    · have := hR.size
      exact ⟨by omega, by omega, .inr (by omega)⟩
  have keepA : ∀ k, k < W.heap.size → v.ownBlock ≠ some k → wa.heap[k]? = W.heap[k]? := fun k hk hne => hgrow.block k hk (fun q => hne q.symm)
  have hs := grown_setCell wa og 0 (.slice (some ⟨ga, 0, none⟩) (n + m) cap)
  have keepS : ∀ k, k < wa.heap.size → k ≠ og → (wa.setCell ⟨og, 0, none⟩ (.slice (some ⟨ga, 0, none⟩) (n + m) cap)).heap[k]? = wa.heap[k]? := fun k hk hne => hs.block k hk (fun q => hne (Option.some.inj q))
  have hsz : W.heap.size ≤ wa.heap.size := hgrow.size
  have hcA : wa.cell? ⟨og, 0, none⟩ = some v := by
    rw [World.cell?_of_block (a := ⟨og, 0, none⟩) (keepA og hov (fun q => (nrow og q).2.1 rfl))]; exact ecW
  have hcS : (wa.setCell ⟨og, 0, none⟩ (.slice (some ⟨ga, 0, none⟩) (n + m) cap)).cell? ⟨og, 0, none⟩ = some (.slice (some ⟨ga, 0, none⟩) (n + m) cap) := by apply World.cell?_setCell_same; exact hcA
  have hrow : ∀ k, RowB (wa.setCell ⟨og, 0, none⟩ (.slice (some ⟨ga, 0, none⟩) (n + m) cap)) og k → k = ga := by
    rintro k ⟨u, e, hu⟩
    rw [hcS] at e; cases e
    simpa [Value.ownBlock] using hu.symm
  have hfo : Fo g og w (wa.setCell ⟨og, 0, none⟩ (.slice (some ⟨ga, 0, none⟩) (n + m) cap)) := by
    refine ⟨hs.os.trans (hgrow.os.trans hR.os), hs.tape.trans (hgrow.tape.trans hR.tape), hs.output.trans (hgrow.output.trans hR.output), Nat.le_trans hR.size (Nat.le_trans hsz hs.size), fun k hk h1 h2 h3 => ?_, fun k q => ?_⟩
    · have hkW := Nat.lt_of_lt_of_le hk hR.size
      exact (keepS k (Nat.lt_of_lt_of_le hkW hsz) h2).trans ((keepA k hkW (fun q => h3 ⟨v, hv, q⟩)).trans (hR.block k hk (fun q => h1 (Option.some.inj q))))
    · rw [hrow k q]; exact gago.2.2
  have hgb : (wa.setCell ⟨og, 0, none⟩ (.slice (some ⟨ga, 0, none⟩) (n + m) cap)).heap[g]? = W.heap[g]? := (keepS g (Nat.lt_of_lt_of_le hgl hsz) h.go.symm).trans (keepA g hgl (fun q => (nrow g q).1 rfl))
  have hb : Below w1.heap.size w1 (wa.setCell ⟨og, 0, none⟩ (.slice (some ⟨ga, 0, none⟩) (n + m) cap)) := below_fo h.hb h.g0 h.o0 (fun k q => (h.rowlt q).1) hfo
  refine ⟨⟨?_, ⟨_, ys, hcS, hown.kept hs (.inr (fun q => gago.1 (by simpa [Value.ownBlock] using q)))⟩, ?_, hb, h.g0, h.o0, h.go, fun q => gago.2.1 (hrow g q).symm, fun q => gago.1 (hrow og q).symm, hl, h.ab⟩, hfo⟩
  · have cc : ∀ i, (wa.setCell ⟨og, 0, none⟩ (.slice (some ⟨ga, 0, none⟩) (n + m) cap)).cell? ⟨g, i, none⟩ = W.cell? ⟨g, i, none⟩ := fun i => World.cell?_of_block (a := ⟨g, i, none⟩) hgb
    have cf : ∀ i, (wa.setCell ⟨og, 0, none⟩ (.slice (some ⟨ga, 0, none⟩) (n + m) cap)).frozen? ⟨g, i, none⟩ = W.frozen? ⟨g, i, none⟩ := fun i => World.frozen?_of_block (a := ⟨g, i, none⟩) hgb
    refine ⟨⟨(cc 0).trans hC.cu.c0, (cc 1).trans hC.cu.c1, (cc 2).trans hC.cu.c2, (cf 1).trans hC.cu.f1, (cf 2).trans hC.cu.f2⟩, ?_, hC.ne, hC.p0, hC.p1, hC.hl, hC.l2, hC.b8⟩
    rcases hC.at_ with q | ⟨ad, e, q⟩
    · exact .inl q
    · refine .inr ⟨ad, e, fun j x hj => ?_⟩
      have hx := q j x hj
      have hbk : (ad.add j).block < w1.heap.size := by rw [add_block]; exact h.ab ad e
      have hW0 := cell_lt' hx
      rw [World.cell?_of_block (a := ad.add j) ((keepS _ (Nat.lt_of_lt_of_le hW0 hsz) (by have := h.o0; omega)).trans (keepA _ hW0 (fun z => by have := (nrow _ z).2.2.1; omega)))]
      exact hx
  · rw [World.frozen?_setCell]
    rw [World.frozen?_of_block (a := ⟨og, 0, none⟩) (keepA og hov (fun q => (nrow og q).2.1 rfl))]
    exact hW.fz
/-- a new block lies beside -/
theorem Beside.new {w1 : World} {g og n I : Nat} {A : Option Addr} {c : Nat} {l : List Int} {p lim : Int} {w W : World} (h : Ast w1 g og n A c l p lim w) (hR : Rd g w W) (h1 : w.heap.size ≤ I) (h2 : I < W.heap.size) : Beside g og I W :=
  ⟨h2, by have := h.cb.cu.lt; omega, by have := h.olt; omega, fun q => by
    have := (h.rowlt ((RowB.of_cell (World.cell?_of_block (a := ⟨og, 0, none⟩) (hR.block og h.olt (fun z => h.go (Option.some.inj z))))).1 q)).2
    omega⟩
theorem Beside.rd {w1 : World} {g og n b : Nat} {A : Option Addr} {c : Nat} {l : List Int} {p lim : Int} {w W : World} (h : Ast w1 g og n A c l p lim w) (k : Beside g og b w) (hR : Rd g w W) : Beside g og b W := k.fo (h.fo hR)
end Go.Proofs.YtiohiiekaofkbaaDoor
