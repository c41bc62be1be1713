/- What changes only some blocks; bytes in a row. -/
import Derived.Test.YtiohiiekaofkbaaDoorC6
namespace Go.Proofs.YtiohiiekaofkbaaDoor
set_option linter.unusedVariables false
set_option linter.unusedSimpArgs false
open Go.RowKit

/-- only blocks of P, and new ones, change -/
structure Fr (P : Nat → Prop) (w w' : World) : Prop where
  os : w'.os = w.os
  tape : w'.tape = w.tape
  output : w'.output = w.output
  size : w.heap.size ≤ w'.heap.size
  block : ∀ i, i < w.heap.size → ¬ P i → w'.heap[i]? = w.heap[i]?
theorem Fr.of_rd {g : Nat} {P : Nat → Prop} {w w' : World} (h : Rd g w w') (hP : P g) : Fr P w w' := ⟨h.os, h.tape, h.output, h.size, fun i hi hn => h.block i hi (fun e => hn (by have := Option.some.inj e; rwa [this]))⟩
theorem Fr.of_below {P : Nat → Prop} {w w' : World} (h : Below w.heap.size w w') : Fr P w w' := ⟨h.os, h.tape, h.output, h.size, fun i hi _ => h.block i hi⟩
theorem Fr.trans {P : Nat → Prop} {a b c : World} (h : Fr P a b) (k : Fr P b c) : Fr P a c :=
  ⟨k.os.trans h.os, k.tape.trans h.tape, k.output.trans h.output, Nat.le_trans h.size k.size, fun i hi hn => (k.block i (Nat.lt_of_lt_of_le hi h.size) hn).trans (h.block i hi hn)⟩
theorem Fr.mono {P Q : Nat → Prop} {a b : World} (h : Fr P a b) (hq : ∀ i, i < a.heap.size → P i → Q i) : Fr Q a b := ⟨h.os, h.tape, h.output, h.size, fun i hi hn => h.block i hi (fun p => hn (hq i hi p))⟩
theorem Fr.set {P : Nat → Prop} {a b : World} (h : Fr P a b) {B i : Nat} (hB : P B) (v : Value) : Fr P a (b.setCell ⟨B, i, none⟩ v) :=
  ⟨h.os, h.tape, h.output, by simpa using h.size, fun k hk hne => by
    rw [heap_setCell_other _ _ _ _ (show k ≠ B by rintro rfl; exact hne hB)]; exact h.block k hk hne⟩
theorem Fr.cell {P : Nat → Prop} {a b : World} (h : Fr P a b) {B i : Nat} {v : Value} (hn : ¬ P B) (hc : a.cell? ⟨B, i, none⟩ = some v) : b.cell? ⟨B, i, none⟩ = some v :=
  (World.cell?_of_block (w := a) (h.block B (cell_lt hc) hn)).trans hc
theorem Fr.below {P : Nat → Prop} {a b : World} (h : Fr P a b) (n : Nat) (hn : n ≤ a.heap.size) (hP : ∀ i, i < n → ¬ P i) : Below n a b :=
  ⟨h.os, h.tape, h.output, h.size, fun i hi => h.block i (Nat.lt_of_lt_of_le hi hn) (hP i hi)⟩
theorem Fr.off {P : Nat → Prop} {B C : Nat} {a b c : World} (h : Fr P a b) (k : Off2 B C b c) (hB : a.heap.size ≤ B) (hC : a.heap.size ≤ C) : Fr P a c :=
  ⟨k.os.trans h.os, k.tape.trans h.tape, k.output.trans h.output, Nat.le_trans h.size k.size, fun i hi hn => (k.block i (Nat.lt_of_lt_of_le hi h.size) (by omega) (by omega)).trans (h.block i hi hn)⟩
theorem BytesAt.fr {A : Option Addr} {l : List Int} {P : Nat → Prop} {w w' : World} (h : BytesAt A l w) (ne : ∀ ad, A = some ad → ¬ P ad.block) (hg : Fr P w w') : BytesAt A l w' := by
  rcases h with h | ⟨ad, rfl, h⟩
  · exact .inl h
  · refine .inr ⟨ad, rfl, fun j x hj => ?_⟩
    have e := h j x hj
    rw [World.cell?_of_block (w := w) (w' := w') (hg.block _ (cell_lt' e) (fun q => ne ad rfl (by rwa [add_block] at q)))]
    exact e
/-- bytes that stand in a row of their own -/
theorem BytesAt.three {BB : Nat} {a b c : Int} {w : World} (h0 : w.cell? ⟨BB, 0, none⟩ = some (.int .u8 a)) (h1 : w.cell? ⟨BB, 1, none⟩ = some (.int .u8 b)) (h2 : w.cell? ⟨BB, 2, none⟩ = some (.int .u8 c)) :
    BytesAt (some ⟨BB, 0, none⟩) [a, b, c] w := by
  refine .inr ⟨_, rfl, fun j x hj => ?_⟩
  match j, hj with
  | 0, hj => simp at hj; subst hj; exact h0
  | 1, hj => simp at hj; subst hj; exact h1
  | 2, hj => simp at hj; subst hj; exact h2
  | n + 3, hj => simp at hj
theorem Rd.of_below {g : Nat} {w w' : World} (h : Below w.heap.size w w') : Rd g w w' := grown_of_below h _
theorem CB.set {g V : Nat} {A : Option Addr} {c : Nat} {l : List Int} {p lim : Int} {w : World} (h : CB g A c l p lim w) (hV : V ≠ g) (hA : ∀ ad, A = some ad → ad.block ≠ V) (u : Value) : CB g A c l p lim (w.setCell ⟨V, 0, none⟩ u) := by
  have hb : (w.setCell ⟨V, 0, none⟩ u).heap[g]? = w.heap[g]? := heap_setCell_other _ _ _ _ (fun e => hV e.symm)
  have cc : ∀ i, (w.setCell ⟨V, 0, none⟩ u).cell? ⟨g, i, none⟩ = w.cell? ⟨g, i, none⟩ := fun i => World.cell?_of_block (a := ⟨g, i, none⟩) hb
  have cf : ∀ i, (w.setCell ⟨V, 0, none⟩ u).frozen? ⟨g, i, none⟩ = w.frozen? ⟨g, i, none⟩ := fun i => World.frozen?_of_block (a := ⟨g, i, none⟩) hb
  exact ⟨⟨(cc 0).trans h.cu.c0, (cc 1).trans h.cu.c1, (cc 2).trans h.cu.c2, (cf 1).trans h.cu.f1, (cf 2).trans h.cu.f2⟩,
    h.at_.fr (P := fun i => i = V) (fun ad e => hA ad e) (Fr.set (P := fun i => i = V) (Fr.of_below (Below.refl _ _)) rfl u), h.ne, h.p0, h.p1, h.hl, h.l2, h.b8⟩
end Go.Proofs.YtiohiiekaofkbaaDoor
