/- Some texts of this seat in one. -/
import Derived.Test.YtiohiiekaofkbaaDoorZD
import Derived.Test.YtiohiiekaofkbaaDoorZC
/- The types' example: what is done within the two tries. -/
namespace Go.Proofs.YtiohiiekaofkbaaDoor
set_option linter.unusedVariables false
set_option linter.unusedSimpArgs false
open Go.RowKit

/-- only blocks of P, and new ones, change -/
structure Fr (P : Nat → Prop) (w w' : World) : Prop where
  os : w'.os = w.os
  tape : w'.tape = w.tape
  output : w'.output = w.output
  size : w.heap.size ≤ w'.heap.size
  block : ∀ i, i < w.heap.size → ¬ P i → w'.heap[i]? = w.heap[i]?
theorem Fr.of_rd {g : Nat} {P : Nat → Prop} {w w' : World} (h : Rd g w w') (hP : P g) : Fr P w w' := ⟨h.os, h.tape, h.output, h.size, fun i hi hn => h.block i hi (fun e => hn (by have := Option.some.inj e; rwa [this]))⟩
theorem Fr.of_below {P : Nat → Prop} {w w' : World} (h : Below w.heap.size w w') : Fr P w w' := ⟨h.os, h.tape, h.output, h.size, fun i hi _ => h.block i hi⟩
theorem Fr.trans {P : Nat → Prop} {a b c : World} (h : Fr P a b) (k : Fr P b c) : Fr P a c :=
  ⟨k.os.trans h.os, k.tape.trans h.tape, k.output.trans h.output, Nat.le_trans h.size k.size, fun i hi hn => (k.block i (Nat.lt_of_lt_of_le hi h.size) hn).trans (h.block i hi hn)⟩
theorem Fr.mono {P Q : Nat → Prop} {a b : World} (h : Fr P a b) (hq : ∀ i, i < a.heap.size → P i → Q i) : Fr Q a b := ⟨h.os, h.tape, h.output, h.size, fun i hi hn => h.block i hi (fun p => hn (hq i hi p))⟩
theorem Fr.set {P : Nat → Prop} {a b : World} (h : Fr P a b) {B i : Nat} (hB : P B) (v : Value) : Fr P a (b.setCell ⟨B, i, none⟩ v) :=
  ⟨h.os, h.tape, h.output, by simpa using h.size, fun k hk hne => by
    rw [heap_setCell_other _ _ _ _ (show k ≠ B by rintro rfl; exact hne hB)]; exact h.block k hk hne⟩
theorem Fr.cell {P : Nat → Prop} {a b : World} (h : Fr P a b) {B i : Nat} {v : Value} (hn : ¬ P B) (hc : a.cell? ⟨B, i, none⟩ = some v) : b.cell? ⟨B, i, none⟩ = some v :=
  (World.cell?_of_block (w := a) (h.block B (cell_lt hc) hn)).trans hc
theorem Fr.below {P : Nat → Prop} {a b : World} (h : Fr P a b) (n : Nat) (hn : n ≤ a.heap.size) (hP : ∀ i, i < n → ¬ P i) : Below n a b :=
  ⟨h.os, h.tape, h.output, h.size, fun i hi => h.block i (Nat.lt_of_lt_of_le hi hn) (hP i hi)⟩
theorem Fr.off {P : Nat → Prop} {B C : Nat} {a b c : World} (h : Fr P a b) (k : Off2 B C b c) (hB : a.heap.size ≤ B) (hC : a.heap.size ≤ C) : Fr P a c :=
  ⟨k.os.trans h.os, k.tape.trans h.tape, k.output.trans h.output, Nat.le_trans h.size k.size, fun i hi hn => (k.block i (Nat.lt_of_lt_of_le hi h.size) (by omega) (by omega)).trans (h.block i hi hn)⟩
/-- bytes that stand in a row of their own -/
theorem BytesAt.four {BB : Nat} {a b c d : Int} {w : World} (h0 : w.cell? ⟨BB, 0, none⟩ = some (.int .u8 a)) (h1 : w.cell? ⟨BB, 1, none⟩ = some (.int .u8 b)) (h2 : w.cell? ⟨BB, 2, none⟩ = some (.int .u8 c)) (h3 : w.cell? ⟨BB, 3, none⟩ = some (.int .u8 d)) :
    BytesAt (some ⟨BB, 0, none⟩) [a, b, c, d] w := by
  refine .inr ⟨_, rfl, fun j x hj => ?_⟩
  match j, hj with
  | 0, hj => simp at hj; subst hj; exact h0
  | 1, hj => simp at hj; subst hj; exact h1
  | 2, hj => simp at hj; subst hj; exact h2
  | 3, hj => simp at hj; subst hj; exact h3
  | n + 4, hj => simp at hj
/-- the limits that are read -/
def Got (G : Nat) (w : World) : Prop := w.cell? ⟨G, 0, none⟩ = some (.bool true) ∧ w.cell? ⟨G, 1, none⟩ = some (.int .u32 1) ∧ w.cell? ⟨G, 2, none⟩ = some (.int .u32 2)
/-- a place for limits -/
structure LimAt (G : Nat) (w : World) : Prop where
  c0 : ∃ a, w.cell? ⟨G, 0, none⟩ = some a
  c1 : ∃ a, w.cell? ⟨G, 1, none⟩ = some a
  c2 : ∃ a, w.cell? ⟨G, 2, none⟩ = some a
  f0 : w.frozen? ⟨G, 0, none⟩ = false
  f1 : w.frozen? ⟨G, 1, none⟩ = false
  f2 : w.frozen? ⟨G, 2, none⟩ = false
theorem LimAt.same {G : Nat} {w W : World} (h : LimAt G w) (e : W.heap[G]? = w.heap[G]?) : LimAt G W := by
  have c : ∀ i, W.cell? ⟨G, i, none⟩ = w.cell? ⟨G, i, none⟩ := fun i => World.cell?_of_block (a := ⟨G, i, none⟩) e
  have f : ∀ i, W.frozen? ⟨G, i, none⟩ = w.frozen? ⟨G, i, none⟩ := fun i => World.frozen?_of_block (a := ⟨G, i, none⟩) e
  exact ⟨by rw [c]; exact h.c0, by rw [c]; exact h.c1, by rw [c]; exact h.c2, by rw [f]; exact h.f0, by rw [f]; exact h.f1, by rw [f]; exact h.f2⟩
theorem LimAt.lt {G : Nat} {w : World} (h : LimAt G w) : G < w.heap.size := by obtain ⟨a, e⟩ := h.c0; exact cell_lt e

theorem ex1_byte : byteM (limB 0 0) [1, 1, 130, 0] 0 4 = .ok (.int .u8 1, 0 + 1) := by kernel_rfl
theorem ex1_min : uM (rgI (tmMin 1 1 + 0) (andMax (tmMax 5 1) 0)) [1, 1, 130, 0] 4 5 0 (0 + 1) = .ok (1, 2) := by kernel_rfl
theorem ex1_max : uM (rgI 0 0) [1, 1, 130, 0] 4 5 0 2 = .ok (2, 4) := by kernel_rfl
theorem ex2_byte : byteM (limB 0 0) [1, 129, 130, 0] 0 4 = .ok (.int .u8 1, 0 + 1) := by kernel_rfl
theorem ex2_min : uM (rgI (tmMin 1 1 + 0) (andMax (tmMax 5 1) 0)) [1, 129, 130, 0] 4 5 0 (0 + 1) = .error (2, 2) := by kernel_rfl
end Go.Proofs.YtiohiiekaofkbaaDoor

/- The types' example: the two tries. -/
namespace Go.Proofs.YtiohiiekaofkbaaDoor
set_option linter.unusedVariables false
set_option linter.unusedSimpArgs false
open Go.RowKit

theorem BytesAt.fr {A : Option Addr} {l : List Int} {P : Nat → Prop} {w w' : World} (h : BytesAt A l w) (ne : ∀ ad, A = some ad → ¬ P ad.block) (hg : Fr P w w') : BytesAt A l w' := by
  rcases h with h | ⟨ad, rfl, h⟩
  · exact .inl h
  · refine .inr ⟨ad, rfl, fun j x hj => ?_⟩
    have e := h j x hj
    rw [World.cell?_of_block (w := w) (w' := w') (hg.block _ (cell_lt' e) (fun q => ne ad rfl (by rwa [add_block] at q)))]
    exact e
set_option maxHeartbeats 2000000 in
theorem a0511_walk (g G C : Nat) (A : Option Addr) (c : Nat) (w : World) (h : CB g A c [1, 1, 130, 0] 0 4 w) (hG : GlobN w) (hgl : 3 ≠ g) (hGg : G ≠ g) (hL : LimAt G w) (hGA : ∀ ad, A = some ad → ad.block ≠ G) (hc : w.cell? ⟨C, 0, none⟩ = some (.pointer (some ⟨g, 0, none⟩))) :
    Calls Tryd.prog 87 #[.pointer (some ⟨C, 0, none⟩), .pointer (some ⟨G, 0, none⟩)] w (fun e w' => e = .returned (.tuple #[]) ∧ CB g A c [1, 1, 130, 0] 4 4 w' ∧ Got G w' ∧ Fr (fun i => i = g ∨ i = G) w w') := by
  have HR := hid (fun W (hW : Below w.heap.size w W) => readLimits_ok1 g A c [1, 1, 130, 0] 0 4 W 0 0 1 1 2 2 4 (h.below hW) (hG.rd hgl (Rd.of_below hW)) hgl (by omega) (by omega) (by omega) ex1_byte (by omega) (by omega) ex1_min (hid rfl) ex1_max)
  have HC := hid h
  have HL := hid hL
  have HGl := hid hL.lt
  clear h hL
  go_enter Tryd.func87, Tryd.ntmps87
  go_wp2_with (first | (go_at_call 88; (with_reducible refine (HR.out _ (by repeat (first | exact Below.refl _ _ | assumption | refine Below.alloc ?_ (by first | exact Nat.le_refl _ | (simp; done) | (simp; omega) | omega) _ | refine Below.drew ?_ | refine Below.setCell ?_ (by first | exact Nat.le_refl _ | (simp; done) | (simp; omega) | omega) _ | refine below_call ?_ (by assumption) (by first | exact Nat.le_refl _ | (simp; done) | (simp; omega) | omega)))).mono ?_); rintro e w1 ⟨rfl, HC1, HG1⟩; have HC1 := hid HC1; obtain ⟨⟨a0, k0⟩, ⟨a1, k1⟩, ⟨a2, k2⟩, f0, f1, f2⟩ := HL.out.same (HG1.block G HGl.out (fun e => hGg (Option.some.inj e)))))
  have hRf := (((Fr.of_rd (P := fun i => i = g ∨ i = G) ((Rd.of_below (g := g) (by repeat (first | exact Below.refl _ _ | assumption | refine Below.alloc ?_ (by first | exact Nat.le_refl _ | (simp; done) | (simp; omega) | omega) _ | refine Below.drew ?_ | refine Below.setCell ?_ (by first | exact Nat.le_refl _ | (simp; done) | (simp; omega) | omega) _ | refine below_call ?_ (by assumption) (by first | exact Nat.le_refl _ | (simp; done) | (simp; omega) | omega)))).trans HG1) (.inl rfl)).set (B := G) (i := 0) (.inr rfl) (.bool true)).set (B := G) (i := 1) (.inr rfl) (.int .u32 1)).set (B := G) (i := 2) (.inr rfl) (.int .u32 2)
  go_end0
  refine ⟨rfl, ?_, ⟨by go_simp, by go_simp, by go_simp⟩, hRf⟩
  exact ⟨((HC1.out.cu.set hGg _).set hGg _).set hGg _, HC.out.at_.fr (fun ad e => by have := HC.out.ne ad e; have := hGA ad e; omega) hRf, HC1.out.ne, HC1.out.p0, HC1.out.p1, HC1.out.hl, HC1.out.l2, HC1.out.b8⟩
/-- what is done with the first bytes -/
def Dn1 (G : Nat) (w0 : World) (p : Int) (w' : World) : Prop := p = 4 ∧ Got G w' ∧ Fr (fun i => i = G ∨ w0.heap.size ≤ i) w0 w'
set_option maxHeartbeats 2000000 in
theorem a051_walk (g G : Nat) (ad : Addr) (c : Nat) (w0 w : World) (h0 : Below w0.heap.size w0 w) (hz : w0.heap.size < w.heap.size) (h : CB g (some ad) c [1, 1, 130, 0] 0 (-1) w) (hG : GlobN w) (hg : g = w0.heap.size + 1 + 1) (hw : w.heap.size = w0.heap.size + 1 + 1 + 1) (hG0 : G < w0.heap.size) (hL : LimAt G w) (hgl : 3 < w0.heap.size) (hGA : ad.block ≠ G) :
    Calls Tryd.prog 86 #[.pointer (some ⟨g, 0, none⟩), .pointer (some ⟨G, 0, none⟩)] w (Does w0.heap.size (some ad) c [1, 1, 130, 0] (Dn1 G w0) (fun _ _ _ => False) w) := by
  have HC := hid h
  have HW := hid (fun W (hW : Below w.heap.size w W) (hb : W.cell? ⟨w.heap.size, 0, none⟩ = some (.pointer (some ⟨g, 0, none⟩))) => within_walk g (some ad) c [1, 1, 130, 0] 0 (-1) 4 W 87 #[.pointer (some ⟨w.heap.size, 0, none⟩), .pointer (some ⟨G, 0, none⟩)] (fun p W' => p = 4 ∧ Got G W' ∧ Fr (fun i => i = g ∨ i = G) W W') (fun _ _ _ => False) (h.below hW) (.inl (by omega)) (by omega) (by omega) (enters Tryd.func87 (by kernel_rfl) rfl)
    (fun V hV hC => (a0511_walk g G w.heap.size (some ad) c V hC (hG.rd (by omega) ((Rd.of_below hW).trans hV)) (by omega) (by omega) (hL.same ((hV.block G (by have := hW.size; omega) (fun e => by have := Option.some.inj e; omega)).trans (hW.block G (by omega)))) (fun ad' e => by cases e; exact hGA) (hV.cell (by omega) hb)).mono (fun e W' q => .inl ⟨q.1, 4, q.2.1, rfl, q.2.2.1, (Fr.of_rd hV (.inl rfl)).trans q.2.2.2⟩)))
  have HH := hid (And.intro hg hw)
  have hg1 : w0.heap.size + 1 < g := by omega
  have hg2 : g < w.heap.size := by omega
  clear h hg hw
  have hmf : ∀ (fn : Fn) (first cap : Array Value) (w : World), (Instr.makeFunc fn first cap).run Tryd.prog w = .ok (.func fn first cap) w := fun _ _ _ _ => rfl
  go_enter Tryd.func86, Tryd.ntmps86
  go_wp2_with (first | (go_at_call 45; (with_reducible refine (HW.out _ (by repeat (first | exact Below.refl _ _ | assumption | refine Below.alloc ?_ (by first | exact Nat.le_refl _ | (simp; done) | (simp; omega) | omega) _ | refine Below.drew ?_ | refine Below.setCell ?_ (by first | exact Nat.le_refl _ | (simp; done) | (simp; omega) | omega) _ | refine below_call ?_ (by assumption) (by first | exact Nat.le_refl _ | (simp; done) | (simp; omega) | omega))) (by go_simp)).mono ?_); rintro e w1 (⟨rfl, p', w', rfl, ⟨-, HGot, HF⟩, HC1, HG1⟩ | ⟨p', w', hp, ⟨h4, -, -⟩, -, -⟩ | ⟨q, er, -, hf⟩)))
  · go_end0
    have hF : Fr (fun i => i = g ∨ i = G) w w1 := ((Fr.of_below (by repeat (first | exact Below.refl _ _ | assumption | refine Below.alloc ?_ (by first | exact Nat.le_refl _ | (simp; done) | (simp; omega) | omega) _ | refine Below.drew ?_ | refine Below.setCell ?_ (by first | exact Nat.le_refl _ | (simp; done) | (simp; omega) | omega) _ | refine below_call ?_ (by assumption) (by first | exact Nat.le_refl _ | (simp; done) | (simp; omega) | omega)))).trans HF).trans (Fr.of_rd HG1 (.inl rfl))
    refine ⟨hF.size, fun i hi => hF.block i (by omega) (by omega), .inl ⟨rfl, 4, -1, ?_, rfl, ⟨HG1.cell (by omega) HGot.1, HG1.cell (by omega) HGot.2.1, HG1.cell (by omega) HGot.2.2⟩, (Fr.of_below h0).trans (hF.mono (fun i _ q => by omega))⟩⟩
    rw [← HH.out.1]; exact HC1.cu
end Go.Proofs.YtiohiiekaofkbaaDoor

/- The types' example: the second try; the tries whole. -/
namespace Go.Proofs.YtiohiiekaofkbaaDoor
set_option linter.unusedVariables false
set_option linter.unusedSimpArgs false
open Go.RowKit

set_option maxHeartbeats 2000000 in
theorem a0521_walk (g C : Nat) (A : Option Addr) (c : Nat) (w : World) (h : CB g A c [1, 129, 130, 0] 0 4 w) (hG : GlobN w) (hgl : 3 ≠ g) (hc : w.cell? ⟨C, 0, none⟩ = some (.pointer (some ⟨g, 0, none⟩))) :
    Calls Tryd.prog 90 #[.pointer (some ⟨C, 0, none⟩)] w (fun e w' => Stops 2 2 e ∧ Rd g w w') := by
  have HR := hid (fun W (hW : Below w.heap.size w W) => readLimits_err2 g A c [1, 129, 130, 0] 0 4 W 0 0 1 (2, 2) (h.below hW) (hG.rd hgl (Rd.of_below hW)) hgl (by omega) (by omega) (by omega) ex2_byte (by omega) (by omega) ex2_min)
  clear h
  go_enter Tryd.func90, Tryd.ntmps90
  go_wp2_with (first | (go_at_call 88; (with_reducible refine (HR.out _ (by repeat (first | exact Below.refl _ _ | assumption | refine Below.alloc ?_ (by first | exact Nat.le_refl _ | (simp; done) | (simp; omega) | omega) _ | refine Below.drew ?_ | refine Below.setCell ?_ (by first | exact Nat.le_refl _ | (simp; done) | (simp; omega) | omega) _ | refine below_call ?_ (by assumption) (by first | exact Nat.le_refl _ | (simp; done) | (simp; omega) | omega)))).mono ?_); rintro e w1 ⟨rfl, HG1⟩))
  exact ⟨rfl, rfl, (Rd.of_below (by repeat (first | exact Below.refl _ _ | assumption | refine Below.alloc ?_ (by first | exact Nat.le_refl _ | (simp; done) | (simp; omega) | omega) _ | refine Below.drew ?_ | refine Below.setCell ?_ (by first | exact Nat.le_refl _ | (simp; done) | (simp; omega) | omega) _ | refine below_call ?_ (by assumption) (by first | exact Nat.le_refl _ | (simp; done) | (simp; omega) | omega)))).trans HG1⟩
def St2 (w0 : World) (p er : Int) (w' : World) : Prop := p = 2 ∧ er = 2 ∧ Fr (fun i => w0.heap.size ≤ i) w0 w'
set_option maxHeartbeats 2000000 in
theorem a052_walk (g : Nat) (ad : Addr) (c : Nat) (w0 w : World) (h0 : Below w0.heap.size w0 w) (hz : w0.heap.size < w.heap.size) (h : CB g (some ad) c [1, 129, 130, 0] 0 (-1) w) (hG : GlobN w) (hg : g = w0.heap.size + 1 + 1) (hw : w.heap.size = w0.heap.size + 1 + 1 + 1) (hgl : 3 < w0.heap.size) :
    Calls Tryd.prog 89 #[.pointer (some ⟨g, 0, none⟩)] w (Does w0.heap.size (some ad) c [1, 129, 130, 0] (fun _ _ => False) (St2 w0) w) := by
  have HC := hid h
  have HW := hid (fun W (hW : Below w.heap.size w W) (hb : W.cell? ⟨w.heap.size, 0, none⟩ = some (.pointer (some ⟨g, 0, none⟩))) => within_walk g (some ad) c [1, 129, 130, 0] 0 (-1) 4 W 90 #[.pointer (some ⟨w.heap.size, 0, none⟩)] (fun p W' => False) (fun p er W' => p = 2 ∧ er = 2 ∧ Rd g W W') (h.below hW) (.inl (by omega)) (by omega) (by omega) (enters Tryd.func90 (by kernel_rfl) rfl)
    (fun V hV hC => (a0521_walk g w.heap.size (some ad) c V hC (hG.rd (by omega) ((Rd.of_below hW).trans hV)) (by omega) (hV.cell (by omega) hb)).mono (fun e W' q => .inr ⟨2, 2, q.1, rfl, rfl, hV.trans q.2⟩)))
  have HH := hid (And.intro hg hw)
  have hg1 : w0.heap.size + 1 < g := by omega
  have hg2 : g < w.heap.size := by omega
  clear h hg hw
  have hmf : ∀ (fn : Fn) (first cap : Array Value) (w : World), (Instr.makeFunc fn first cap).run Tryd.prog w = .ok (.func fn first cap) w := fun _ _ _ _ => rfl
  go_enter Tryd.func89, Tryd.ntmps89
  go_wp2_with (first | (go_at_call 45; (with_reducible refine (HW.out _ (by repeat (first | exact Below.refl _ _ | assumption | refine Below.alloc ?_ (by first | exact Nat.le_refl _ | (simp; done) | (simp; omega) | omega) _ | refine Below.drew ?_ | refine Below.setCell ?_ (by first | exact Nat.le_refl _ | (simp; done) | (simp; omega) | omega) _ | refine below_call ?_ (by assumption) (by first | exact Nat.le_refl _ | (simp; done) | (simp; omega) | omega))) (by go_simp)).mono ?_); rintro e w1 (⟨rfl, p', w', rfl, hf, HC1, HG1⟩ | ⟨p', w', hp, hf, -, -⟩ | ⟨q, er, rfl, rfl, rfl, HG1⟩)))
  have hR : Rd g w w1 := (Rd.of_below (by repeat (first | exact Below.refl _ _ | assumption | refine Below.alloc ?_ (by first | exact Nat.le_refl _ | (simp; done) | (simp; omega) | omega) _ | refine Below.drew ?_ | refine Below.setCell ?_ (by first | exact Nat.le_refl _ | (simp; done) | (simp; omega) | omega) _ | refine below_call ?_ (by assumption) (by first | exact Nat.le_refl _ | (simp; done) | (simp; omega) | omega)))).trans HG1
  exact ⟨rfl, hR.size, fun i hi => hR.block i (by omega) (fun e => by have := Option.some.inj e; omega), .inr ⟨2, 2, rfl, rfl, rfl, (Fr.of_below h0).trans (Fr.of_rd hR (by show w0.heap.size ≤ g; omega))⟩⟩

/-- the first try -/
theorem try1_ex (w : World) (BB G : Nat) (hG : GlobN w) (hGB : G ≠ BB) (hL : LimAt G w) (h0 : w.cell? ⟨BB, 0, none⟩ = some (.int .u8 1)) (h1 : w.cell? ⟨BB, 1, none⟩ = some (.int .u8 1)) (h2 : w.cell? ⟨BB, 2, none⟩ = some (.int .u8 130)) (h3 : w.cell? ⟨BB, 3, none⟩ = some (.int .u8 0)) :
    Calls Tryd.prog 43 #[.slice (some ⟨BB, 0, none⟩) 4 4, .func (.func 86) #[] #[.pointer (some ⟨G, 0, none⟩)]] w (fun e w' => e = .returned (.tuple #[.int .i64 4, .int .i64 0]) ∧ Got G w' ∧ Fr (fun i => i = G) w w') := by
  have hB := cell_lt h0
  have hg3 := cell_lt hG.c0
  refine (try_walk (some ⟨BB, 0, none⟩) 4 [1, 1, 130, 0] w 86 #[.pointer (some ⟨G, 0, none⟩)] (Dn1 G w) (fun _ _ _ => False) (enters Tryd.func86 (by kernel_rfl) rfl) ?_).mono ?_
  · intro W hW hz hC
    exact a051_walk (w.heap.size + 1 + 1) G ⟨BB, 0, none⟩ 4 w W hW (by omega) ⟨hC, (BytesAt.four h0 h1 h2 h3).fr (P := fun _ => False) (fun _ _ q => q) (Fr.of_below hW), fun ad e => by cases e; show BB ≠ _; omega, by omega, by simp, by simp, by omega, by intro x hx; simp at hx; omega⟩ ⟨still hW hG.c0, still hW hG.c1⟩ rfl hz hL.lt (hL.same (hW.block G hL.lt)) hg3 (by show BB ≠ G; omega)
  · rintro e w' ⟨w1, hO, (⟨p, rfl, rfl, hg, hF⟩ | ⟨p, er, -, hf⟩)⟩
    · have hF2 : Fr (fun i => i = G ∨ w.heap.size ≤ i) w w' := hF.off hO (Nat.le_refl _) (by omega)
      have hlt : G < w1.heap.size := Nat.lt_of_lt_of_le hL.lt hF.size
      have hl := hL.lt
      have e : ∀ i, w'.cell? ⟨G, i, none⟩ = w1.cell? ⟨G, i, none⟩ := fun i => World.cell?_of_block (a := ⟨G, i, none⟩) (hO.block G hlt (by omega) (by omega))
      exact ⟨rfl, ⟨(e 0).trans hg.1, (e 1).trans hg.2.1, (e 2).trans hg.2.2⟩, hF2.mono (fun i hi q => by omega)⟩
    · exact hf.elim
/-- the second try -/
theorem try2_ex (w : World) (BB : Nat) (hG : GlobN w) (h0 : w.cell? ⟨BB, 0, none⟩ = some (.int .u8 1)) (h1 : w.cell? ⟨BB, 1, none⟩ = some (.int .u8 129)) (h2 : w.cell? ⟨BB, 2, none⟩ = some (.int .u8 130)) (h3 : w.cell? ⟨BB, 3, none⟩ = some (.int .u8 0)) :
    Calls Tryd.prog 43 #[.slice (some ⟨BB, 0, none⟩) 4 4, .func (.func 89) #[] #[]] w (fun e w' => e = .returned (.tuple #[.int .i64 2, .int .i64 2]) ∧ Below w.heap.size w w') := by
  have hB := cell_lt h0
  have hg3 := cell_lt hG.c0
  refine (try_walk (some ⟨BB, 0, none⟩) 4 [1, 129, 130, 0] w 89 #[] (fun _ _ => False) (St2 w) (enters Tryd.func89 (by kernel_rfl) rfl) ?_).mono ?_
  · intro W hW hz hC
    exact a052_walk (w.heap.size + 1 + 1) ⟨BB, 0, none⟩ 4 w W hW (by omega) ⟨hC, (BytesAt.four h0 h1 h2 h3).fr (P := fun _ => False) (fun _ _ q => q) (Fr.of_below hW), fun ad e => by cases e; show BB ≠ _; omega, by omega, by simp, by simp, by omega, by intro x hx; simp at hx; omega⟩ ⟨still hW hG.c0, still hW hG.c1⟩ rfl hz hg3
  · rintro e w' ⟨w1, hO, (⟨p, rfl, hf⟩ | ⟨p, er, rfl, rfl, rfl, hF⟩)⟩
    · exact hf.elim
    · exact ⟨rfl, (hF.off hO (Nat.le_refl _) (by omega)).below _ (Nat.le_refl _) (fun i hi => by omega)⟩
end Go.Proofs.YtiohiiekaofkbaaDoor
