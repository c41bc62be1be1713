/- Small lemmas on worlds and rows of bytes, used by all walks of this seat. -/
import Derived.Test.YtiohiiekaofkbaaDoorProg
import Derived.WalkKit
import Derived.WalkSpells
import Derived.WalkLawsBesides
import Derived.Below
import Derived.Outline
import Derived.Deep.LoopGhost
import Derived.Deep.DeepCutAuto
import Derived.Deep.CutBlock
import Derived.Deep.RegionHeld3
namespace Go.Proofs.YtiohiiekaofkbaaDoor
set_option linter.unusedVariables false
set_option linter.unusedSimpArgs false
open Go.RowKit

theorem hid {p : Prop} (h : p) : Hid p := h
theorem ret_bool {a b : Bool} (h : a = b) : Ending.returned (.bool a) = .returned (.bool b) := by rw [h]
theorem ret_int {k : IntKind} {a b : Int} (h : a = b) : Ending.returned (.int k a) = .returned (.int k b) := by rw [h]
theorem bcell {W w1 : World} (hb : Below W.heap.size W w1) : (∀ b o, b < W.heap.size → w1.cell? ⟨b, o, none⟩ = W.cell? ⟨b, o, none⟩) ∧ (∀ b o, b < W.heap.size → w1.frozen? ⟨b, o, none⟩ = W.frozen? ⟨b, o, none⟩) :=
  ⟨fun b o h => hb.cell (p := ⟨b, o, none⟩) h, fun b o h => hb.frozen (p := ⟨b, o, none⟩) h⟩
theorem cell_lt {w : World} {g o : Nat} {v : Value} (h : w.cell? ⟨g, o, none⟩ = some v) : g < w.heap.size := by
  rcases Nat.lt_or_ge g w.heap.size with q | q
  · exact q
  · simp [World.cell?, Array.getElem?_eq_none q] at h
theorem below_call {B : Nat} {w W w1 : World} (h : Below B w W) (hb : Below W.heap.size W w1) (hB : B ≤ W.heap.size) : Below B w w1 := h.trans (hb.mono hB)
theorem still {w W : World} (hb : Below w.heap.size w W) {g o : Nat} {v : Value} (h : w.cell? ⟨g, o, none⟩ = some v) : W.cell? ⟨g, o, none⟩ = some v := (hb.cell (p := ⟨g, o, none⟩) (cell_lt h)).trans h
theorem wu (x : Int) : IntKind.u64.wrap x = x % 18446744073709551616 := by
  simp [IntKind.wrap, IntKind.bits, IntKind.signed]

/-- numbers as bytes' values -/
def bv (l : List Int) : List Value := l.map (Value.int .u8)
theorem bv_app (a b : List Int) : bv (a ++ b) = bv a ++ bv b := by simp [bv]
theorem bv_len (a : List Int) : (bv a).length = a.length := by simp [bv]
/-- an own row of bytes from block 'base' on -/
def Own (w : World) (base : Nat) (v : Value) (l : List Int) : Prop := w.ownsRow base 5 1 v l.length (bv l)
theorem info5 : (Tryd.prog.info? 5).map (fun i => (i.zero, i.size, i.bytes)) = some (some (.int .u8 0), 1, 1) := by kernel_rfl

theorem one_new (w : World) (a : Value) (t : TypeId) : ∀ (j : Nat) (u : Value), [a][j]? = some u → (w.alloc (.cells #[a] t)).cell? ((⟨w.heap.size, 0, none⟩ : Addr).add j) = some u := by
  intro j u h
  match j, h with
  | 0, h => simp at h; subst h; simp [Addr.add, World.cell?_alloc_new]
  | j + 1, h => simp at h

theorem Own.lt {w : World} {base : Nat} {v : Value} {l : List Int} (h : Own w base v l) : ∀ k, v.ownBlock = some k → base ≤ k ∧ k < w.heap.size := World.ownsRow.lt h

/-- behind an append of one byte -/
theorem Own.step {w wr w1 : World} {base : Nat} {o : Obj} {v v1 : Value} {l : List Int} {x : Int} (hB : Below base w wr) (hs : base ≤ wr.heap.size) (ho : Own wr base v l)
    {n : Nat} (h1 : w1.ownsRow base 5 1 v1 n (bv l ++ [.int .u8 x])) (hn : n = l.length + 1) (hg : (wr.alloc o).grownBy w1 v.ownBlock) : Own w1 base v1 (l ++ [x]) ∧ Below base w w1 ∧ base ≤ w1.heap.size := by
  refine ⟨?_, ?_, ?_⟩
  · subst hn; unfold Own; rw [bv_app]; simpa [bv] using h1
  · exact (hB.alloc hs o).grown hg (by simp; omega) (fun k hk => (ho.lt _ hk).1)
  · have := hg.size; simp at this; omega

end Go.Proofs.YtiohiiekaofkbaaDoor
