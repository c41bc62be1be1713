/- Texts of this claim, as far as they are used here: B0, C0, C1, S0, S1, S3, S5, C2. -/
import Derived.Test.YtiohiiekaofkbaaGreatDoorProg
import Derived.WalkKit
import Derived.WalkSpells
import Derived.WalkLawsBesides
import Derived.Below
import Derived.Outline
import Derived.Deep.LoopGhost
import Derived.Deep.DeepCutAuto
import Derived.Deep.CutBlock
import Derived.Deep.RegionHeld3
import Derived.Deep.QuietTactic
import Derived.BigQuiet
import Derived.StillTailTactics
/- Small lemmas on worlds and rows of bytes, used by all walks of this seat. -/
namespace Go.Proofs.YtiohiiekaofkbaaGreatDoor
set_option linter.unusedVariables false
set_option linter.unusedSimpArgs false
open Go.RowKit
theorem hid {p : Prop} (h : p) : Hid p := h
theorem ret_bool {a b : Bool} (h : a = b) : Ending.returned (.bool a) = .returned (.bool b) := by rw [h]
theorem ret_int {k : IntKind} {a b : Int} (h : a = b) : Ending.returned (.int k a) = .returned (.int k b) := by rw [h]
theorem bcell {W w1 : World} (hb : Below W.heap.size W w1) : (∀ b o, b < W.heap.size → w1.cell? ⟨b, o, none⟩ = W.cell? ⟨b, o, none⟩) ∧ (∀ b o, b < W.heap.size → w1.frozen? ⟨b, o, none⟩ = W.frozen? ⟨b, o, none⟩) :=
  ⟨fun b o h => hb.cell (p := ⟨b, o, none⟩) h, fun b o h => hb.frozen (p := ⟨b, o, none⟩) h⟩
theorem cell_lt {w : World} {g o : Nat} {v : Value} (h : w.cell? ⟨g, o, none⟩ = some v) : g < w.heap.size := by
  rcases Nat.lt_or_ge g w.heap.size with q | q
  · exact q
  · simp [World.cell?, Array.getElem?_eq_none q] at h
theorem below_call {B : Nat} {w W w1 : World} (h : Below B w W) (hb : Below W.heap.size W w1) (hB : B ≤ W.heap.size) : Below B w w1 := h.trans (hb.mono hB)
theorem bel {B : Nat} {w W : World} (h : Below B w W := by repeat (first | exact Below.refl _ _ | assumption | refine Below.alloc ?_ (by first | exact Nat.le_refl _ | (simp; done) | (simp; omega) | omega) _ | refine Below.drew ?_ | refine Below.setCell ?_ (by first | exact Nat.le_refl _ | (simp; done) | (simp; omega) | omega) _ | refine below_call ?_ (by assumption) (by first | exact Nat.le_refl _ | (simp; done) | (simp; omega) | omega))) : Below B w W := h
theorem still {w W : World} (hb : Below w.heap.size w W) {g o : Nat} {v : Value} (h : w.cell? ⟨g, o, none⟩ = some v) : W.cell? ⟨g, o, none⟩ = some v := (hb.cell (p := ⟨g, o, none⟩) (cell_lt h)).trans h
theorem wu (x : Int) : IntKind.u64.wrap x = x % 18446744073709551616 := by
  simp [IntKind.wrap, IntKind.bits, IntKind.signed]
section
variable {P : Program} {ops : Array Oper} {Q : Exit → Act → World → Prop} {S : World → Prop}
theorem tk (i : Nat) (oi : Oper) {v : Value} {fuel : Nat} {listed listed' : Array Bool} {a a' : Act} {w : World} (hi : ops[i]? = some oi) (h : wpAnyH P .any ops Q S fuel listed' a' w)
    (hs : Region.noSelect ops = true := by kernel_rfl) (hf : Region.free .any ops listed i = true := by kernel_rfl) (hr : (Region.ready .any ops listed).contains i = true := by kernel_rfl)
    (hg : Region.wanted oi (yielded ops a.tmps) = true := by rfl)
    (hy : ∀ w, S w → (execOp a.eval oi).run P w = .ok (.value v) w := by (intro w hSw; (try dsimp only at hSw); go_simp; first | (with_reducible rfl) | (rw [if_neg (by omega)]) | skip))
    (hQ : ∀ c a w, Q (.panic c) (a.put oi.dst v) w → Q (.panic c) a w := by exact fun _ _ _ h => h) (hS : S w := by assumption)
    (hl : listed.setIfInBounds i true = listed' := by first | (simp only [List.setIfInBounds_toArray, List.set_cons_zero, List.set_cons_succ]; rfl) | rfl)
    (hp : a.put oi.dst v = a' := by first | (simp only [Act.put, List.setIfInBounds_toArray, List.set_cons_zero, List.set_cons_succ]; rfl) | rfl) : wpAnyH P .any ops Q S (fuel + 1) listed a w := by
  subst hl hp
  exact wpAnyH_take hi hs hf hr hQ (.inl ⟨hg, hy⟩) hS h
theorem tkn (i : Nat) (oi : Oper) {fuel : Nat} {listed listed' : Array Bool} {a a' : Act} {w : World} (hi : ops[i]? = some oi) (h : wpAnyH P .any ops Q S fuel listed' a' w)
    (hs : Region.noSelect ops = true := by kernel_rfl) (hf : Region.free .any ops listed i = true := by kernel_rfl) (hr : (Region.ready .any ops listed).contains i = true := by kernel_rfl)
    (hg : Region.wanted oi (yielded ops a.tmps) = false := by rfl)
    (hQ : ∀ c a w, Q (.panic c) (a.put oi.dst undef) w → Q (.panic c) a w := by exact fun _ _ _ h => h) (hS : S w := by assumption)
    (hl : listed.setIfInBounds i true = listed' := by first | (simp only [List.setIfInBounds_toArray, List.set_cons_zero, List.set_cons_succ]; rfl) | rfl)
    (hp : a.put oi.dst undef = a' := by first | (simp only [Act.put, List.setIfInBounds_toArray, List.set_cons_zero, List.set_cons_succ]; rfl) | rfl) : wpAnyH P .any ops Q S (fuel + 1) listed a w := by
  subst hl hp
  exact wpAnyH_take hi hs hf hr hQ (.inr ⟨hg, rfl⟩) hS h
end
def bv (l : List Int) : List Value := l.map (Value.int .u8)
theorem bv_app (a b : List Int) : bv (a ++ b) = bv a ++ bv b := by simp [bv]
def Own (w : World) (base : Nat) (v : Value) (l : List Int) : Prop := w.ownsRow base 5 1 v l.length (bv l)
theorem info5 : (Tryz.prog.info? 5).map (fun i => (i.zero, i.size, i.bytes)) = some (some (.int .u8 0), 1, 1) := by kernel_rfl
theorem one_new (w : World) (a : Value) (t : TypeId) : ∀ (j : Nat) (u : Value), [a][j]? = some u → (w.alloc (.cells #[a] t)).cell? ((⟨w.heap.size, 0, none⟩ : Addr).add j) = some u := by
  intro j u h
  match j, h with
  | 0, h => simp at h; subst h; simp [Addr.add, World.cell?_alloc_new]
  | j + 1, h => simp at h
theorem Own.lt {w : World} {base : Nat} {v : Value} {l : List Int} (h : Own w base v l) : ∀ k, v.ownBlock = some k → base ≤ k ∧ k < w.heap.size := World.ownsRow.lt h
theorem Own.step {w wr w1 : World} {base : Nat} {o : Obj} {v v1 : Value} {l : List Int} {x : Int} (hB : Below base w wr) (hs : base ≤ wr.heap.size) (ho : Own wr base v l)
    {n : Nat} (h1 : w1.ownsRow base 5 1 v1 n (bv l ++ [.int .u8 x])) (hn : n = l.length + 1) (hg : (wr.alloc o).grownBy w1 v.ownBlock) : Own w1 base v1 (l ++ [x]) ∧ Below base w w1 ∧ base ≤ w1.heap.size := by
  refine ⟨?_, ?_, ?_⟩
  · subst hn; unfold Own; rw [bv_app]; simpa [bv] using h1
  · exact (hB.alloc hs o).grown hg (by simp; omega) (fun k hk => (ho.lt _ hk).1)
  · have := hg.size; simp at this; omega
end Go.Proofs.YtiohiiekaofkbaaGreatDoor
/- The cursor: its cells, its rest; giving up. -/
namespace Go.Proofs.YtiohiiekaofkbaaGreatDoor
set_option linter.unusedVariables false
set_option linter.unusedSimpArgs false
open Go.RowKit
structure Cu (g : Nat) (sl : Value) (p lim : Int) (w : World) : Prop where
  c0 : w.cell? ⟨g, 0, none⟩ = some sl
  c1 : w.cell? ⟨g, 1, none⟩ = some (.int .i64 p)
  c2 : w.cell? ⟨g, 2, none⟩ = some (.int .i64 lim)
  f1 : w.frozen? ⟨g, 1, none⟩ = false
  f2 : w.frozen? ⟨g, 2, none⟩ = false
def rest (p lim : Int) : Int := if lim < 0 then 1099511627776 else lim - p
def stopV (p e : Int) : Value := .iface 158 (.agg #[.int .i64 p, .int .i64 e])
def Stops (p er : Int) (e : Ending) : Prop := e = .panicked [{ v := stopV p er, recovered := false }]
set_option maxHeartbeats 1000000 in
theorem rest_walk (g : Nat) (sl : Value) (p lim : Int) (w : World) (h : Cu g sl p lim w) (p0 : 0 ≤ p) (p1 : p ≤ 4611686018427387904) (l1 : lim ≤ 4611686018427387904) :
    Calls Tryz.prog 16 #[.pointer (some ⟨g, 0, none⟩)] w (fun e w' => e = .returned (.int .i64 (rest p lim)) ∧ ∃ n, w' = w.drewN n) := by
  obtain ⟨c0, c1, c2, f1, f2⟩ := h
  by_cases hl : lim < 0
  · go_enter Tryz.func16, Tryz.ntmps16
    go_wp2
    go_ret
    exact ⟨ret_int (by rw [rest, if_pos hl]), 0, rfl⟩
  · have hr : rest p lim = lim - p := by rw [rest, if_neg hl]
    have hl0 : 0 ≤ lim := by omega
    rw [hr]
    clear hr
    go_enter Tryz.func16, Tryz.ntmps16
    go_upto_region 3 with (fail)
    go_quiet (fail)
    go_wp2_with fail
    go_ret
    exact ⟨rfl, nq, rfl⟩
set_option maxHeartbeats 1000000 in
theorem need_yes (p : Int) (w : World) : Calls Tryz.prog 38 #[.bool true, .int .i64 p] w (fun e w' => e = .returned (.tuple #[]) ∧ w' = w) := by
  go_enter Tryz.func38, Tryz.ntmps38
  go_wp2
  go_end0
  exact ⟨rfl, rfl⟩
set_option maxHeartbeats 1000000 in
theorem need_no (p : Int) (w : World) : Calls Tryz.prog 38 #[.bool false, .int .i64 p] w (fun e w' => Stops p 2 e ∧ w' = w) := by
  go_enter Tryz.func38, Tryz.ntmps38
  go_wp2
  exact ⟨rfl, rfl, rfl⟩
def BytesAt (A : Option Addr) (l : List Int) (w : World) : Prop := l = [] ∨ ∃ ad, A = some ad ∧ ∀ (j : Nat) (x : Int), l[j]? = some x → w.cell? (ad.add j) = some (.int .u8 x)
abbrev Rd (g : Nat) (w w' : World) : Prop := w.grownBy w' (some g)
theorem Cu.lt {g : Nat} {sl : Value} {p lim : Int} {w : World} (h : Cu g sl p lim w) : g < w.heap.size := cell_lt h.c0
theorem Cu.below {g : Nat} {sl : Value} {p lim : Int} {w w' : World} (h : Cu g sl p lim w) (hb : Below w.heap.size w w') : Cu g sl p lim w' := by
  have hl := h.lt
  have hc : ∀ i, w'.cell? ⟨g, i, none⟩ = w.cell? ⟨g, i, none⟩ := fun i => hb.cell (p := ⟨g, i, none⟩) hl
  have hf : ∀ i, w'.frozen? ⟨g, i, none⟩ = w.frozen? ⟨g, i, none⟩ := fun i => hb.frozen (p := ⟨g, i, none⟩) hl
  exact ⟨(hc 0).trans h.c0, (hc 1).trans h.c1, (hc 2).trans h.c2, (hf 1).trans h.f1, (hf 2).trans h.f2⟩
theorem grown_of_below {w w' : World} (h : Below w.heap.size w w') (row : Option Nat) : w.grownBy w' row := ⟨h.os, h.tape, h.output, h.size, fun i hi _ => h.block i hi⟩
def nextR (l : List Int) (p lim : Int) : Except (Int × Int) Int := if rest p lim ≤ 0 then .error (p, 2) else match l[p.toNat]? with | some x => .ok x | none => .error (l.length, 1)
theorem keepN {g : Nat} {a b c : Value} {w0 W W' : World} {B : Nat} (h : W.cell? ⟨g, 0, none⟩ = some a ∧ W.cell? ⟨g, 1, none⟩ = some b ∧ W.cell? ⟨g, 2, none⟩ = some c ∧ Below B w0 W ∧ B ≤ W.heap.size) (hb : Below W.heap.size W W') :
    W'.cell? ⟨g, 0, none⟩ = some a ∧ W'.cell? ⟨g, 1, none⟩ = some b ∧ W'.cell? ⟨g, 2, none⟩ = some c ∧ Below B w0 W' ∧ B ≤ W'.heap.size := by
  have hl : g < W.heap.size := cell_lt h.1
  have hc : ∀ i, W'.cell? ⟨g, i, none⟩ = W.cell? ⟨g, i, none⟩ := fun i => hb.cell (p := ⟨g, i, none⟩) hl
  exact ⟨(hc 0).trans h.1, (hc 1).trans h.2.1, (hc 2).trans h.2.2.1, h.2.2.2.1.trans (hb.mono h.2.2.2.2), Nat.le_trans h.2.2.2.2 hb.size⟩
theorem below_drewN (w : World) (n : Nat) : Below w.heap.size w (w.drewN n) := ⟨rfl, rfl, rfl, Nat.le_refl _, fun _ _ => rfl⟩
set_option maxHeartbeats 4000000 in
theorem next_lim (g : Nat) (A : Option Addr) (c : Nat) (l : List Int) (p lim : Int) (w : World) (h : Cu g (.slice A l.length c) p lim w) (p0 : 0 ≤ p) (p1 : p ≤ l.length) (hl : l.length ≤ 1000000000) (l1 : lim ≤ 4611686018427387904) (hr : rest p lim ≤ 0) :
    Calls Tryz.prog 59 #[.pointer (some ⟨g, 0, none⟩)] w (fun e w' => Stops p 2 e ∧ Rd g w w') := by
  have HR := hid (fun W (hb : Below w.heap.size w W) => rest_walk g (.slice A l.length c) p lim W (h.below hb) p0 (by omega) l1)
  have HN := hid (fun W => need_no p W)
  have hc := h
  obtain ⟨c0, c1, c2, f1, f2⟩ := h
  go_enter Tryz.func59, Tryz.ntmps59
  go_upto_region 1 with (fail)
  have S0 : w.cell? ⟨g, 0, none⟩ = some (.slice A l.length c) ∧ w.cell? ⟨g, 1, none⟩ = some (.int .i64 p) ∧ w.cell? ⟨g, 2, none⟩ = some (.int .i64 lim) ∧ Below w.heap.size w w ∧ w.heap.size ≤ w.heap.size := ⟨c0, c1, c2, Below.refl _ _, Nat.le_refl _⟩
  clear c0 c1 c2 f1 f2 hc
  refine wp_region_held_drew (S := (fun W => W.cell? ⟨g, 0, none⟩ = some (.slice A l.length c) ∧ W.cell? ⟨g, 1, none⟩ = some (.int .i64 p) ∧ W.cell? ⟨g, 2, none⟩ = some (.int .i64 lim) ∧ Below w.heap.size w W ∧ w.heap.size ≤ W.heap.size)) (by kernel_rfl) ?hSa1 (fun hHeld => ?goa1)
  case hSa1 => exact keepN S0 (Below.drew (Below.refl _ _))
  refine tk 0 ⟨some 3, .move (.tmp 0), 73, "cursor.go:77", #[], none⟩ rfl ?_
  refine tk 3 ⟨some 6, .move (.tmp 0), 73, "cursor.go:77", #[], none⟩ rfl ?_
  refine tk 4 ⟨some 7, .nilCheck (.tmp 6), 0, "cursor.go:77", #[⟨3, .data⟩], none⟩ rfl ?_
  refine tk 5 ⟨some 8, .fieldAddr 156 (.tmp 7) 1, 0, "cursor.go:77", #[⟨4, .data⟩], none⟩ rfl ?_
  refine tk 6 ⟨some 9, .load 3 (.tmp 8), 3, "cursor.go:77", #[⟨5, .data⟩], none⟩ rfl ?_
  refine wpAnyH_ready (rs := [1]) (by kernel_rfl) (by simp) ?_
  refine AllReadyH.cons (o := ⟨some 4, .call { callee := .value (.func 16), args := #[.tmp 3], argTypes := #[73] }, 3, "cursor.go:77", #[⟨0, .data⟩], none⟩) rfl (fun K hK => ?_) AllReadyH.nil
  go_simp
  go_at_call 16; (with_reducible refine (HR.out _ hHeld.2.2.2.1).mono ?_); rintro e w1 ⟨rfl, n1, rfl⟩
  refine hK.out _ _ ?_ (fun hHeld => ?_)
  · (try dsimp only); exact keepN hHeld (below_drewN _ _)
  clear hK K
  try simp only [Act.put, List.setIfInBounds_toArray, List.set_cons_zero, List.set_cons_succ]
  refine tk 2 ⟨some 5, .binOp .gtr 3 (.tmp 4) (.const (.int .i64 0)) 3, 4, "cursor.go:77", #[⟨1, .data⟩], none⟩ rfl ?_
  refine wpAnyH_ready (rs := [7]) (by kernel_rfl) (by simp) ?_
  refine AllReadyH.cons (o := ⟨some 10, .call { callee := .value (.func 38), args := #[.tmp 5, .tmp 9], argTypes := #[4, 3] }, 0, "cursor.go:77", #[⟨2, .data⟩, ⟨6, .data⟩, ⟨1, .chain⟩], none⟩) rfl (fun K hK => ?_) AllReadyH.nil
  go_simp
  rw [decide_eq_false (show ¬ 0 < rest p lim by omega)]; go_at_call 38; (with_reducible refine (HN.out _).mono ?_); rintro e w1 ⟨rfl, rfl⟩; exact ⟨rfl, rfl, grown_of_below (below_drewN w _) _⟩
set_option maxHeartbeats 4000000 in
theorem next_end (g : Nat) (A : Option Addr) (c : Nat) (l : List Int) (p lim : Int) (w : World) (h : Cu g (.slice A l.length c) p lim w) (p0 : 0 ≤ p) (p1 : p ≤ l.length) (p2 : l.length ≤ p) (hl : l.length ≤ 1000000000) (l1 : lim ≤ 4611686018427387904) (hr : 0 < rest p lim) :
    Calls Tryz.prog 59 #[.pointer (some ⟨g, 0, none⟩)] w (fun e w' => Stops l.length 1 e ∧ Rd g w w') := by
  have HR := hid (fun W (hb : Below w.heap.size w W) => rest_walk g (.slice A l.length c) p lim W (h.below hb) p0 (by omega) l1)
  have HN := hid (fun W => need_yes p W)
  obtain ⟨c0, c1, c2, f1, f2⟩ := h
  go_enter Tryz.func59, Tryz.ntmps59
  go_upto_region 1 with (fail)
  have S0 : w.cell? ⟨g, 0, none⟩ = some (.slice A l.length c) ∧ w.cell? ⟨g, 1, none⟩ = some (.int .i64 p) ∧ w.cell? ⟨g, 2, none⟩ = some (.int .i64 lim) ∧ Below w.heap.size w w ∧ w.heap.size ≤ w.heap.size := ⟨c0, c1, c2, Below.refl _ _, Nat.le_refl _⟩
  clear c0 c1 c2 f1 f2
  refine wp_region_noPanic ?_
  refine wp_region_held_drew (S := (fun W => W.cell? ⟨g, 0, none⟩ = some (.slice A l.length c) ∧ W.cell? ⟨g, 1, none⟩ = some (.int .i64 p) ∧ W.cell? ⟨g, 2, none⟩ = some (.int .i64 lim) ∧ Below w.heap.size w W ∧ w.heap.size ≤ W.heap.size)) (by kernel_rfl) ?hSa1 (fun hHeld => ?goa1)
  case hSa1 => exact keepN S0 (Below.drew (Below.refl _ _))
  refine tk 0 ⟨some 3, .move (.tmp 0), 73, "cursor.go:77", #[], none⟩ rfl ?_
  refine tk 3 ⟨some 6, .move (.tmp 0), 73, "cursor.go:77", #[], none⟩ rfl ?_
  refine tk 4 ⟨some 7, .nilCheck (.tmp 6), 0, "cursor.go:77", #[⟨3, .data⟩], none⟩ rfl ?_
  refine tk 5 ⟨some 8, .fieldAddr 156 (.tmp 7) 1, 0, "cursor.go:77", #[⟨4, .data⟩], none⟩ rfl ?_
  refine tk 6 ⟨some 9, .load 3 (.tmp 8), 3, "cursor.go:77", #[⟨5, .data⟩], none⟩ rfl ?_
  refine wpAnyH_ready (rs := [1]) (by kernel_rfl) (by simp) ?_
  refine AllReadyH.cons (o := ⟨some 4, .call { callee := .value (.func 16), args := #[.tmp 3], argTypes := #[73] }, 3, "cursor.go:77", #[⟨0, .data⟩], none⟩) rfl (fun K hK => ?_) AllReadyH.nil
  go_simp
  go_at_call 16; (with_reducible refine (HR.out _ hHeld.2.2.2.1).mono ?_); rintro e w1 ⟨rfl, n1, rfl⟩
  refine hK.out _ _ ?_ (fun hHeld => ?_)
  · (try dsimp only); first | exact keepN hHeld (below_drewN _ _) | exact keepN S0 (below_drewN w _)
  clear hK K
  try simp only [Act.put, List.setIfInBounds_toArray, List.set_cons_zero, List.set_cons_succ]
  refine tk 2 ⟨some 5, .binOp .gtr 3 (.tmp 4) (.const (.int .i64 0)) 3, 4, "cursor.go:77", #[⟨1, .data⟩], none⟩ rfl ?_
  refine wpAnyH_ready (rs := [7]) (by kernel_rfl) (by simp) ?_
  refine AllReadyH.cons (o := ⟨some 10, .call { callee := .value (.func 38), args := #[.tmp 5, .tmp 9], argTypes := #[4, 3] }, 0, "cursor.go:77", #[⟨2, .data⟩, ⟨6, .data⟩, ⟨1, .chain⟩], none⟩) rfl (fun K hK => ?_) AllReadyH.nil
  go_simp
  go_at_call 38; (with_reducible refine (HN.out _).mono ?_); rintro e w1 ⟨rfl, rfl⟩
  refine hK.out _ _ ?_ (fun hHeld => ?_)
  · (try dsimp only); first | exact keepN hHeld (below_drewN _ _) | exact keepN S0 (below_drewN w _)
  clear hK K
  try simp only [Act.put, List.setIfInBounds_toArray, List.set_cons_zero, List.set_cons_succ]
  refine wpAnyH_done (by kernel_rfl) ?_ _
  refine NoPanic.normal ?_
  obtain ⟨c0, c1, c2, -⟩ := S0
  go_wp2_with fail
  go_quiet (fail)
  go_wp2_with fail
  exact ⟨rfl, rfl, grown_of_below (below_drewN w _) _⟩
theorem add_block (a : Addr) (k : Nat) : (a.add k).block = a.block := by unfold Addr.add; split <;> rfl
theorem cell_lt' {w : World} {a : Addr} {v : Value} (h : w.cell? a = some v) : a.block < w.heap.size := by
  rcases Nat.lt_or_ge a.block w.heap.size with q | q
  · exact q
  · simp [World.cell?, Array.getElem?_eq_none q] at h
theorem grown_setCell (w : World) (g i : Nat) (v : Value) : w.grownBy (w.setCell ⟨g, i, none⟩ v) (some g) :=
  ⟨rfl, rfl, rfl, by simp, fun k _ hne => heap_setCell_other w ⟨g, i, none⟩ k v (fun e => hne (congrArg some e))⟩
theorem moved {g : Nat} {sl : Value} {p lim : Int} {w : World} (h : Cu g sl p lim w) (a b : Nat) (p' : Int) :
    Cu g sl p' lim (((w.drewN a).setCell ⟨g, 1, none⟩ (.int .i64 p')).drewN b) ∧ Rd g w (((w.drewN a).setCell ⟨g, 1, none⟩ (.int .i64 p')).drewN b) := by
  obtain ⟨c0, c1, c2, f1, f2⟩ := h
  have d : ∀ i, i ≠ 1 → (w.setCell ⟨g, 1, none⟩ (.int .i64 p')).cell? ⟨g, i, none⟩ = w.cell? ⟨g, i, none⟩ := by
    intro i hi; apply World.cell?_setCell_other; intro e; injection e with _ e _; exact hi e.symm
  refine ⟨⟨(d 0 (by decide)).trans c0, (by apply World.cell?_setCell_same; exact c1), (d 2 (by decide)).trans c2, ?_, ?_⟩, ?_⟩
  · exact (World.frozen?_setCell _ _ _ _).trans f1
  · exact (World.frozen?_setCell _ _ _ _).trans f2
  · exact (grown_of_below (below_drewN w a) _).trans ((grown_setCell _ g 1 _).trans (grown_of_below (below_drewN _ b) _))
set_option maxHeartbeats 4000000 in
theorem next_ok (g : Nat) (ad : Addr) (c : Nat) (n : Nat) (x : Int) (p lim : Int) (w : World) (h : Cu g (.slice (some ad) n c) p lim w) (p0 : 0 ≤ p) (p1 : p < n) (hl : n ≤ 1000000000) (hne : ad.block ≠ g) (hx : w.cell? (ad.add p.toNat) = some (.int .u8 x)) (l1 : lim ≤ 4611686018427387904) (hr : 0 < rest p lim) :
    Calls Tryz.prog 59 #[.pointer (some ⟨g, 0, none⟩)] w (fun e w' => e = .returned (.int .u8 x) ∧ Cu g (.slice (some ad) n c) (p + 1) lim w' ∧ Rd g w w') := by
  have HR := hid (fun W (hb : Below w.heap.size w W) => rest_walk g (.slice (some ad) n c) p lim W (h.below hb) p0 (by omega) l1)
  have HN := hid (fun W => need_yes p W)
  have HM := hid (fun (a b : Nat) => moved h a b (p + 1))
  obtain ⟨c0, c1, c2, f1, f2⟩ := h
  go_enter Tryz.func59, Tryz.ntmps59
  go_upto_region 1 with (fail)
  have S0 : w.cell? ⟨g, 0, none⟩ = some (.slice (some ad) n c) ∧ w.cell? ⟨g, 1, none⟩ = some (.int .i64 p) ∧ w.cell? ⟨g, 2, none⟩ = some (.int .i64 lim) ∧ Below w.heap.size w w ∧ w.heap.size ≤ w.heap.size := ⟨c0, c1, c2, Below.refl _ _, Nat.le_refl _⟩
  clear c0 c1 c2
  refine wp_region_noPanic ?_
  refine wp_region_held_drew (S := (fun W => W.cell? ⟨g, 0, none⟩ = some (.slice (some ad) n c) ∧ W.cell? ⟨g, 1, none⟩ = some (.int .i64 p) ∧ W.cell? ⟨g, 2, none⟩ = some (.int .i64 lim) ∧ Below w.heap.size w W ∧ w.heap.size ≤ W.heap.size)) (by kernel_rfl) ?hSa1 (fun hHeld => ?goa1)
  case hSa1 => exact keepN S0 (Below.drew (Below.refl _ _))
  refine tk 0 ⟨some 3, .move (.tmp 0), 73, "cursor.go:77", #[], none⟩ rfl ?_
  refine tk 3 ⟨some 6, .move (.tmp 0), 73, "cursor.go:77", #[], none⟩ rfl ?_
  refine tk 4 ⟨some 7, .nilCheck (.tmp 6), 0, "cursor.go:77", #[⟨3, .data⟩], none⟩ rfl ?_
  refine tk 5 ⟨some 8, .fieldAddr 156 (.tmp 7) 1, 0, "cursor.go:77", #[⟨4, .data⟩], none⟩ rfl ?_
  refine tk 6 ⟨some 9, .load 3 (.tmp 8), 3, "cursor.go:77", #[⟨5, .data⟩], none⟩ rfl ?_
  refine wpAnyH_ready (rs := [1]) (by kernel_rfl) (by simp) ?_
  refine AllReadyH.cons (o := ⟨some 4, .call { callee := .value (.func 16), args := #[.tmp 3], argTypes := #[73] }, 3, "cursor.go:77", #[⟨0, .data⟩], none⟩) rfl (fun K hK => ?_) AllReadyH.nil
  go_simp
  go_at_call 16; (with_reducible refine (HR.out _ hHeld.2.2.2.1).mono ?_); rintro e w1 ⟨rfl, n1, rfl⟩
  refine hK.out _ _ ?_ (fun hHeld => ?_)
  · (try dsimp only); first | exact keepN hHeld (below_drewN _ _) | exact keepN S0 (below_drewN w _)
  clear hK K
  try simp only [Act.put, List.setIfInBounds_toArray, List.set_cons_zero, List.set_cons_succ]
  refine tk 2 ⟨some 5, .binOp .gtr 3 (.tmp 4) (.const (.int .i64 0)) 3, 4, "cursor.go:77", #[⟨1, .data⟩], none⟩ rfl ?_
  refine wpAnyH_ready (rs := [7]) (by kernel_rfl) (by simp) ?_
  refine AllReadyH.cons (o := ⟨some 10, .call { callee := .value (.func 38), args := #[.tmp 5, .tmp 9], argTypes := #[4, 3] }, 0, "cursor.go:77", #[⟨2, .data⟩, ⟨6, .data⟩, ⟨1, .chain⟩], none⟩) rfl (fun K hK => ?_) AllReadyH.nil
  go_simp
  go_at_call 38; (with_reducible refine (HN.out _).mono ?_); rintro e w1 ⟨rfl, rfl⟩
  refine hK.out _ _ ?_ (fun hHeld => ?_)
  · (try dsimp only); first | exact keepN hHeld (below_drewN _ _) | exact keepN S0 (below_drewN w _)
  clear hK K
  try simp only [Act.put, List.setIfInBounds_toArray, List.set_cons_zero, List.set_cons_succ]
  refine wpAnyH_done (by kernel_rfl) ?_ _
  refine NoPanic.normal ?_
  obtain ⟨c0, c1, c2, -⟩ := S0
  go_wp2_with fail
  go_quiet (fail)
  go_wp2_with fail
  have hwp : IntKind.i64.wrap p = p := by rw [IntKind.wrap_i64]; omega
  have hxs : ((w.drewN (1 + n1 + nq)).setCell ⟨g, 1, none⟩ (.int .i64 (p + 1))).cell? (ad.add p.toNat) = some (.int .u8 x) := (World.cell?_setCell_far _ _ _ _ (fun q => hne ((add_block ad _).symm.trans q.symm))).trans hx
  go_quiet (first | (simp only [hxs]; go_simp; done) | (simp only [hwp, if_pos (And.intro p0 p1)]; first | done | exact ⟨rfl, rfl⟩ | (go_simp; done)) | (simp [hwp, p0, p1]; done))
  go_wp2_with fail
  go_ret
  exact ⟨rfl, HM.out _ _⟩
end Go.Proofs.YtiohiiekaofkbaaGreatDoor
/- The cursor with its bytes; the next byte; a byte that may be. -/
namespace Go.Proofs.YtiohiiekaofkbaaGreatDoor
set_option linter.unusedVariables false
set_option linter.unusedSimpArgs false
open Go.RowKit
structure CB (g : Nat) (A : Option Addr) (c : Nat) (l : List Int) (p lim : Int) (w : World) : Prop where
  cu : Cu g (.slice A l.length c) p lim w
  at_ : BytesAt A l w
  ne : ∀ ad, A = some ad → ad.block ≠ g
  p0 : 0 ≤ p
  p1 : p ≤ l.length
  hl : l.length ≤ 1000000000
  l2 : lim - p ≤ 1099511627776
  b8 : ∀ x ∈ l, 0 ≤ x ∧ x < 256
theorem CB.l1 {g : Nat} {A : Option Addr} {c : Nat} {l : List Int} {p lim : Int} {w : World} (h : CB g A c l p lim w) : lim ≤ 4611686018427387904 := by have := h.l2; have := h.p1; have := h.hl; omega
theorem Rd.trans {g : Nat} {a b c : World} (h : Rd g a b) (k : Rd g b c) : Rd g a c := World.grownBy.trans h k
theorem BytesAt.rd {A : Option Addr} {l : List Int} {g : Nat} {w w' : World} (h : BytesAt A l w) (ne : ∀ ad, A = some ad → ad.block ≠ g) (hg : Rd g w w') : BytesAt A l w' := by
  rcases h with h | ⟨ad, rfl, h⟩
  · exact .inl h
  · refine .inr ⟨ad, rfl, fun j x hj => ?_⟩
    have e := h j x hj
    rw [World.cell?_of_block (w := w) (w' := w') (hg.block _ (cell_lt' e) (fun q => ne ad rfl ((add_block ad j).symm.trans (Option.some.inj q))))]
    exact e
theorem CB.rd {g : Nat} {A : Option Addr} {c : Nat} {l : List Int} {p lim p' lim' : Int} {w w' : World} (h : CB g A c l p lim w) (hg : Rd g w w') (hc : Cu g (.slice A l.length c) p' lim' w') (q0 : 0 ≤ p') (q1 : p' ≤ l.length) (q2 : lim' - p' ≤ 1099511627776) : CB g A c l p' lim' w' :=
  ⟨hc, h.at_.rd h.ne hg, h.ne, q0, q1, h.hl, q2, h.b8⟩
theorem CB.below {g : Nat} {A : Option Addr} {c : Nat} {l : List Int} {p lim : Int} {w w' : World} (h : CB g A c l p lim w) (hb : Below w.heap.size w w') : CB g A c l p lim w' :=
  h.rd (grown_of_below hb _) (h.cu.below hb) h.p0 h.p1 h.l2
abbrev Res := Except (Int × Int) (Value × Int)
def Post (g : Nat) (A : Option Addr) (c : Nat) (l : List Int) (lim : Int) (w : World) (r : Res) (e : Ending) (w' : World) : Prop :=
  match r with
  | .ok (v, p') => e = .returned v ∧ CB g A c l p' lim w' ∧ Rd g w w'
  | .error s => Stops s.1 s.2 e ∧ Rd g w w'
def nextV (l : List Int) (p lim : Int) : Res := match nextR l p lim with | .ok x => .ok (.int .u8 x, p + 1) | .error s => .error s
theorem next_walk (g : Nat) (A : Option Addr) (c : Nat) (l : List Int) (p lim : Int) (w : World) (h : CB g A c l p lim w) :
    Calls Tryz.prog 59 #[.pointer (some ⟨g, 0, none⟩)] w (Post g A c l lim w (nextV l p lim)) := by
  have p0 := h.p0
  have p1 := h.p1
  have hl := h.hl
  by_cases hr : rest p lim ≤ 0
  · have e : nextV l p lim = .error (p, 2) := by rw [nextV, nextR, if_pos hr]
    rw [e]
    exact (next_lim g A c l p lim w h.cu p0 p1 hl h.l1 hr).mono (fun e w' q => q)
  · by_cases hp : p < l.length
    · have hx : l[p.toNat]? = some l[p.toNat] := List.getElem?_eq_getElem (by omega)
      have e : nextV l p lim = .ok (.int .u8 l[p.toNat], p + 1) := by rw [nextV, nextR, if_neg hr, hx]
      rw [e]
      rcases h.at_ with q | ⟨ad, rfl, q⟩
      · rw [q] at hp; simp at hp; omega
      · refine (next_ok g ad c l.length l[p.toNat] p lim w h.cu p0 hp hl (h.ne ad rfl) (q _ _ hx) h.l1 (by omega)).mono (fun e w' k => ?_)
        exact ⟨k.1, h.rd k.2.2 k.2.1 (by omega) (by omega) (by have := h.l2; omega), k.2.2⟩
    · have e : nextV l p lim = .error (l.length, 1) := by rw [nextV, nextR, if_neg hr, List.getElem?_eq_none (by omega)]
      rw [e]
      exact (next_end g A c l p lim w h.cu p0 p1 (by omega) hl h.l1 (by omega)).mono (fun e w' q => q)
theorem rest_b {g : Nat} {A : Option Addr} {c : Nat} {l : List Int} {p lim : Int} {w : World} (h : CB g A c l p lim w) (W : World) (hb : Below w.heap.size w W) :
    Calls Tryz.prog 16 #[.pointer (some ⟨g, 0, none⟩)] W (fun e w' => e = .returned (.int .i64 (rest p lim)) ∧ Below W.heap.size W w') :=
  (rest_walk g (.slice A l.length c) p lim W (h.cu.below hb) h.p0 (by have := h.p1; have := h.hl; omega) h.l1).mono (fun e w' ⟨q, n, r⟩ => ⟨q, r ▸ below_drewN W n⟩)
abbrev Enters (k : Nat) : Prop := ∀ (args : Array Value) (w : World), (callFunc k args).run Tryz.prog w = .ok (.enter k args) w
theorem enters {f : FuncId} {fn : Func} {c : Code} (hf : Tryz.prog.funcs[f]? = some fn) (hname : (fn.name == "runtime.NumGoroutine") = false) (hb : fn.body = some c) : Enters f := by
  intro args w
  have h1 : fn.name ≠ "runtime.NumGoroutine" := by simpa using hname
  simp [callFunc, hf, h1, hb]
abbrev May (k : Nat) (caps : Array Value) (w : World) (x : Int) (r : Int) (is : Bool) : Prop :=
  ∀ W, w.heap.size ≤ W.heap.size → Below w.heap.size w W → Calls Tryz.prog k (#[.int .u8 x, .int .i64 r] ++ caps) W (fun e w' => e = .returned (.bool is) ∧ Below W.heap.size W w')
set_option maxHeartbeats 4000000 in
theorem byte_yes (g : Nat) (A : Option Addr) (c : Nat) (l : List Int) (p lim : Int) (w : World) (k : Nat) (caps : Array Value) (hE : Enters k) (h : CB g A c l p lim w) (x : Int) (hx : nextR l p lim = .ok x)
    (hm : ∀ w1, Rd g w w1 → CB g A c l (p + 1) lim w1 → May k caps w1 x (rest (p + 1) lim) true) :
    Calls Tryz.prog 39 #[.pointer (some ⟨g, 0, none⟩), .func (.func k) #[] caps] w (Post g A c l lim w (.ok (.int .u8 x, p + 1))) := by
  have HN := hid (next_walk g A c l p lim w h)
  have hv : nextV l p lim = .ok (.int .u8 x, p + 1) := by rw [nextV, hx]
  rw [hv] at HN
  have HM := hid hm
  have HE := hid hE
  clear hE
  clear hm hx hv
  go_enter Tryz.func39, Tryz.ntmps39
  go_upto_region 2 with (first | (go_at_call 59; refine HN.out.mono ?_; rintro e w1 ⟨rfl, HC, HG⟩))
  have HR := hid (rest_b HC)
  have p0 := h.p0
  have p1 := h.p1
  have hl := h.hl
  have HY := hid (fun W => need_yes p W)
  have HMM := hid (HM.out w1 HG HC)
  have hwp : IntKind.i64.wrap p = p := by rw [IntKind.wrap_i64]; omega
  obtain ⟨c0, c1, c2, f1, f2⟩ := HC.cu
  have S0 : w1.cell? ⟨g, 0, none⟩ = some (.slice A l.length c) ∧ w1.cell? ⟨g, 1, none⟩ = some (.int .i64 (p + 1)) ∧ w1.cell? ⟨g, 2, none⟩ = some (.int .i64 lim) ∧ Below w1.heap.size w1 w1 ∧ w1.heap.size ≤ w1.heap.size := ⟨c0, c1, c2, Below.refl _ _, Nat.le_refl _⟩
  clear c0 c1 c2
  refine wp_region_noPanic ?_
  refine wp_region_held_drew (S := (fun W => W.cell? ⟨g, 0, none⟩ = some (.slice A l.length c) ∧ W.cell? ⟨g, 1, none⟩ = some (.int .i64 (p + 1)) ∧ W.cell? ⟨g, 2, none⟩ = some (.int .i64 lim) ∧ Below w1.heap.size w1 W ∧ w1.heap.size ≤ W.heap.size)) (by kernel_rfl) ?hSa1 (fun hHeld => ?goa1)
  case hSa1 => exact keepN S0 (Below.drew (Below.refl _ _))
  refine tk 0 ⟨some 8, .move (.tmp 1), 163, "cursor.go:88", #[], none⟩ rfl ?_
  refine tk 1 ⟨some 9, .move (.tmp 5), 5, "cursor.go:88", #[], none⟩ rfl ?_
  refine tk 2 ⟨some 10, .move (.tmp 0), 73, "cursor.go:88", #[], none⟩ rfl ?_
  refine tk 5 ⟨some 13, .move (.tmp 0), 73, "cursor.go:88", #[], none⟩ rfl ?_
  refine tk 6 ⟨some 14, .nilCheck (.tmp 13), 0, "cursor.go:88", #[⟨5, .data⟩], none⟩ rfl ?_
  refine tk 7 ⟨some 15, .fieldAddr 156 (.tmp 14) 1, 0, "cursor.go:88", #[⟨6, .data⟩], none⟩ rfl ?_
  refine tk 8 ⟨some 16, .load 3 (.tmp 15), 3, "cursor.go:88", #[⟨7, .data⟩], none⟩ rfl ?_
  refine tk 9 ⟨some 17, .binOp .sub 3 (.tmp 16) (.const (.int .i64 1)) 3, 3, "cursor.go:88", #[⟨8, .data⟩], none⟩ rfl ?_
  refine wpAnyH_ready (rs := [3]) (by kernel_rfl) (by simp) ?_
  refine AllReadyH.cons (o := ⟨some 11, .call { callee := .value (.func 16), args := #[.tmp 10], argTypes := #[73] }, 3, "cursor.go:88", #[⟨2, .data⟩], none⟩) rfl (fun K hK => ?_) AllReadyH.nil
  go_simp
  go_at_call 16; (with_reducible refine (HR.out _ hHeld.2.2.2.1).mono ?_); rintro e w2 ⟨rfl, hb2⟩
  refine hK.out _ _ ?_ (fun hHeld => ?_)
  · (try dsimp only); first | exact hHeld | exact keepN hHeld (by assumption) | exact keepN hHeld (below_drewN _ _) | exact keepN S0 (below_drewN w1 _)
  clear hK K
  try simp only [Act.put, List.setIfInBounds_toArray, List.set_cons_zero, List.set_cons_succ]
  refine wpAnyH_ready (rs := [4]) (by kernel_rfl) (by simp) ?_
  refine AllReadyH.cons (o := ⟨some 12, .call { callee := .value (.tmp 8), args := #[.tmp 9, .tmp 11], argTypes := #[5, 3] }, 4, "cursor.go:88", #[⟨0, .data⟩, ⟨1, .data⟩, ⟨3, .data⟩, ⟨3, .chain⟩], none⟩) rfl (fun K hK => ?_) AllReadyH.nil
  go_simp
  rw [HE.out]; go_simp; (with_reducible refine (HMM.out _ hHeld.2.2.2.2 hHeld.2.2.2.1).mono ?_); rintro e w4 ⟨rfl, hb4⟩
  refine hK.out _ _ ?_ (fun hHeld => ?_)
  · (try dsimp only); first | exact hHeld | exact keepN hHeld (by assumption) | exact keepN hHeld (below_drewN _ _) | exact keepN S0 (below_drewN w1 _)
  clear hK K
  try simp only [Act.put, List.setIfInBounds_toArray, List.set_cons_zero, List.set_cons_succ]
  refine wpAnyH_ready (rs := [10]) (by kernel_rfl) (by simp) ?_
  refine AllReadyH.cons (o := ⟨some 18, .call { callee := .value (.func 38), args := #[.tmp 12, .tmp 17], argTypes := #[4, 3] }, 0, "cursor.go:88", #[⟨4, .data⟩, ⟨9, .data⟩, ⟨4, .chain⟩], none⟩) rfl (fun K hK => ?_) AllReadyH.nil
  go_simp
  (try rw [hwp]); go_at_call 38; (with_reducible refine (HY.out _).mono ?_); rintro e w3 ⟨rfl, rfl⟩
  refine hK.out _ _ ?_ (fun hHeld => ?_)
  · (try dsimp only); first | exact hHeld | exact keepN hHeld (by assumption) | exact keepN hHeld (below_drewN _ _) | exact keepN S0 (below_drewN w1 _)
  clear hK K
  try simp only [Act.put, List.setIfInBounds_toArray, List.set_cons_zero, List.set_cons_succ]
  refine wpAnyH_done (by kernel_rfl) ?_ _
  refine NoPanic.normal ?_
  go_wp2_with fail
  go_ret
  exact ⟨rfl, HC.below hHeld.2.2.2.1, HG.trans (grown_of_below hHeld.2.2.2.1 _)⟩
set_option maxHeartbeats 4000000 in
theorem byte_not (g : Nat) (A : Option Addr) (c : Nat) (l : List Int) (p lim : Int) (w : World) (k : Nat) (caps : Array Value) (hE : Enters k) (h : CB g A c l p lim w) (x : Int) (hx : nextR l p lim = .ok x)
    (hm : ∀ w1, Rd g w w1 → CB g A c l (p + 1) lim w1 → May k caps w1 x (rest (p + 1) lim) false) :
    Calls Tryz.prog 39 #[.pointer (some ⟨g, 0, none⟩), .func (.func k) #[] caps] w (Post g A c l lim w (.error (p, 2))) := by
  have HN := hid (next_walk g A c l p lim w h)
  have hv : nextV l p lim = .ok (.int .u8 x, p + 1) := by rw [nextV, hx]
  rw [hv] at HN
  have HM := hid hm
  have HE := hid hE
  clear hE
  clear hm hx hv
  go_enter Tryz.func39, Tryz.ntmps39
  go_upto_region 2 with (first | (go_at_call 59; refine HN.out.mono ?_; rintro e w1 ⟨rfl, HC, HG⟩))
  have HR := hid (rest_b HC)
  have p0 := h.p0
  have p1 := h.p1
  have hl := h.hl
  have HY := hid (fun W => need_no p W)
  have HMM := hid (HM.out w1 HG HC)
  have hwp : IntKind.i64.wrap p = p := by rw [IntKind.wrap_i64]; omega
  obtain ⟨c0, c1, c2, f1, f2⟩ := HC.cu
  have S0 : w1.cell? ⟨g, 0, none⟩ = some (.slice A l.length c) ∧ w1.cell? ⟨g, 1, none⟩ = some (.int .i64 (p + 1)) ∧ w1.cell? ⟨g, 2, none⟩ = some (.int .i64 lim) ∧ Below w1.heap.size w1 w1 ∧ w1.heap.size ≤ w1.heap.size := ⟨c0, c1, c2, Below.refl _ _, Nat.le_refl _⟩
  clear c0 c1 c2
  refine wp_region_held_drew (S := (fun W => W.cell? ⟨g, 0, none⟩ = some (.slice A l.length c) ∧ W.cell? ⟨g, 1, none⟩ = some (.int .i64 (p + 1)) ∧ W.cell? ⟨g, 2, none⟩ = some (.int .i64 lim) ∧ Below w1.heap.size w1 W ∧ w1.heap.size ≤ W.heap.size)) (by kernel_rfl) ?hSa1 (fun hHeld => ?goa1)
  case hSa1 => exact keepN S0 (Below.drew (Below.refl _ _))
  refine tk 0 ⟨some 8, .move (.tmp 1), 163, "cursor.go:88", #[], none⟩ rfl ?_
  refine tk 1 ⟨some 9, .move (.tmp 5), 5, "cursor.go:88", #[], none⟩ rfl ?_
  refine tk 2 ⟨some 10, .move (.tmp 0), 73, "cursor.go:88", #[], none⟩ rfl ?_
  refine tk 5 ⟨some 13, .move (.tmp 0), 73, "cursor.go:88", #[], none⟩ rfl ?_
  refine tk 6 ⟨some 14, .nilCheck (.tmp 13), 0, "cursor.go:88", #[⟨5, .data⟩], none⟩ rfl ?_
  refine tk 7 ⟨some 15, .fieldAddr 156 (.tmp 14) 1, 0, "cursor.go:88", #[⟨6, .data⟩], none⟩ rfl ?_
  refine tk 8 ⟨some 16, .load 3 (.tmp 15), 3, "cursor.go:88", #[⟨7, .data⟩], none⟩ rfl ?_
  refine tk 9 ⟨some 17, .binOp .sub 3 (.tmp 16) (.const (.int .i64 1)) 3, 3, "cursor.go:88", #[⟨8, .data⟩], none⟩ rfl ?_
  refine wpAnyH_ready (rs := [3]) (by kernel_rfl) (by simp) ?_
  refine AllReadyH.cons (o := ⟨some 11, .call { callee := .value (.func 16), args := #[.tmp 10], argTypes := #[73] }, 3, "cursor.go:88", #[⟨2, .data⟩], none⟩) rfl (fun K hK => ?_) AllReadyH.nil
  go_simp
  go_at_call 16; (with_reducible refine (HR.out _ hHeld.2.2.2.1).mono ?_); rintro e w2 ⟨rfl, hb2⟩
  refine hK.out _ _ ?_ (fun hHeld => ?_)
  · (try dsimp only); first | exact hHeld | exact keepN hHeld (by assumption) | exact keepN hHeld (below_drewN _ _) | exact keepN S0 (below_drewN w1 _)
  clear hK K
  try simp only [Act.put, List.setIfInBounds_toArray, List.set_cons_zero, List.set_cons_succ]
  refine wpAnyH_ready (rs := [4]) (by kernel_rfl) (by simp) ?_
  refine AllReadyH.cons (o := ⟨some 12, .call { callee := .value (.tmp 8), args := #[.tmp 9, .tmp 11], argTypes := #[5, 3] }, 4, "cursor.go:88", #[⟨0, .data⟩, ⟨1, .data⟩, ⟨3, .data⟩, ⟨3, .chain⟩], none⟩) rfl (fun K hK => ?_) AllReadyH.nil
  go_simp
  rw [HE.out]; go_simp; (with_reducible refine (HMM.out _ hHeld.2.2.2.2 hHeld.2.2.2.1).mono ?_); rintro e w4 ⟨rfl, hb4⟩
  refine hK.out _ _ ?_ (fun hHeld => ?_)
  · (try dsimp only); first | exact hHeld | exact keepN hHeld (by assumption) | exact keepN hHeld (below_drewN _ _) | exact keepN S0 (below_drewN w1 _)
  clear hK K
  try simp only [Act.put, List.setIfInBounds_toArray, List.set_cons_zero, List.set_cons_succ]
  refine wpAnyH_ready (rs := [10]) (by kernel_rfl) (by simp) ?_
  refine AllReadyH.cons (o := ⟨some 18, .call { callee := .value (.func 38), args := #[.tmp 12, .tmp 17], argTypes := #[4, 3] }, 0, "cursor.go:88", #[⟨4, .data⟩, ⟨9, .data⟩, ⟨4, .chain⟩], none⟩) rfl (fun K hK => ?_) AllReadyH.nil
  go_simp
  (try rw [hwp]); go_at_call 38; (with_reducible refine (HY.out _).mono ?_); rintro e w3 ⟨rfl, rfl⟩; exact ⟨rfl, rfl, HG.trans (grown_of_below hHeld.2.2.2.1 _)⟩
set_option maxHeartbeats 1000000 in
theorem byte_err (g : Nat) (A : Option Addr) (c : Nat) (l : List Int) (p lim : Int) (w : World) (k : Nat) (caps : Array Value) (h : CB g A c l p lim w) (s : Int × Int) (hx : nextR l p lim = .error s) :
    Calls Tryz.prog 39 #[.pointer (some ⟨g, 0, none⟩), .func (.func k) #[] caps] w (Post g A c l lim w (.error s)) := by
  have HN := hid (next_walk g A c l p lim w h)
  have hv : nextV l p lim = .error s := by rw [nextV, hx]
  rw [hv] at HN
  clear hx hv
  go_enter Tryz.func39, Tryz.ntmps39
  go_upto_region 2 with (first | (go_at_call 59; refine HN.out.mono ?_; rintro e w1 ⟨rfl, HG⟩))
  exact ⟨rfl, rfl, HG⟩
end Go.Proofs.YtiohiiekaofkbaaGreatDoor
/- span's own functions (from seat A.D's texts, by symbols; printed by gen_s.py). -/
namespace Go.Proofs.YtiohiiekaofkbaaGreatDoor
set_option linter.unusedVariables false
set_option linter.unusedSimpArgs false
open Go.RowKit
theorem glob_far {w : World} {g i : Nat} {v : Value} (hw : g < w.heap.size) (h : w.cell? ⟨g, i, none⟩ = some v) :
    (∀ o1 o2 o3, (((w.alloc o1).alloc o2).alloc o3).cell? ⟨g, i, none⟩ = some v) ∧ (∀ o1 o2 o3 o4, ((((w.alloc o1).alloc o2).alloc o3).alloc o4).cell? ⟨g, i, none⟩ = some v) ∧ (∀ o1 o2 o3 o4 o5, (((((w.alloc o1).alloc o2).alloc o3).alloc o4).alloc o5).cell? ⟨g, i, none⟩ = some v) ∧ (∀ o1 o2 o3 o4 o5 o6, ((((((w.alloc o1).alloc o2).alloc o3).alloc o4).alloc o5).alloc o6).cell? ⟨g, i, none⟩ = some v) ∧ (∀ o1 o2 o3 o4 o5 o6 o7, (((((((w.alloc o1).alloc o2).alloc o3).alloc o4).alloc o5).alloc o6).alloc o7).cell? ⟨g, i, none⟩ = some v) ∧ (∀ o1 o2 o3 o4 o5 o6 o7 o8, ((((((((w.alloc o1).alloc o2).alloc o3).alloc o4).alloc o5).alloc o6).alloc o7).alloc o8).cell? ⟨g, i, none⟩ = some v) := by
  refine ⟨?_, ?_, ?_, ?_, ?_, ?_⟩ <;> (intros; repeat (rw [World.cell?_alloc_lt _ _ _ (by simp; omega)])) <;> exact h
theorem set2 {W : World} {g : Nat} {u v x y : Value} (h0 : W.cell? ⟨g, 0, none⟩ = some x) (h1 : W.cell? ⟨g, 1, none⟩ = some y) :
    ((W.setCell ⟨g, 0, none⟩ u).setCell ⟨g, 1, none⟩ v).cell? ⟨g, 0, none⟩ = some u ∧ ((W.setCell ⟨g, 0, none⟩ u).setCell ⟨g, 1, none⟩ v).cell? ⟨g, 1, none⟩ = some v := by
  simp only [World.cell?] at h0 h1
  cases hg : W.heap[g]? with
  | none => simp [hg] at h0
  | some o =>
    cases o <;> simp [hg] at h0 h1
    rename_i c e f
    have a0 : 0 < c.size := by
      rcases Nat.lt_or_ge 0 c.size with q | q
      · exact q
      · simp [Array.getElem?_eq_none q] at h0
    have a1 : 1 < c.size := by
      rcases Nat.lt_or_ge 1 c.size with q | q
      · exact q
      · simp [Array.getElem?_eq_none q] at h1
    simp [World.cell?, World.setCell, Array.getElem?_modify, hg, a0, a1]
def wiL (lo hi : Int) : Int := if min hi 4294967295 < lo ∨ hi < 0 then 1 else max 0 lo
def wiH (lo hi : Int) : Int := if min hi 4294967295 < lo ∨ hi < 0 then 0 else min hi 4294967295
set_option maxHeartbeats 400000 in
theorem within_any (lo hi : Int) (w : World) (h1 : -4000000000000000000 ≤ lo) (h2 : lo ≤ 4000000000000000000) (h3 : -4000000000000000000 ≤ hi) (h4 : hi ≤ 9223372036854775807)
    (hw : 2 < w.heap.size) (g0 : w.cell? ⟨2, 0, none⟩ = some (.int .u64 1)) (g1 : w.cell? ⟨2, 1, none⟩ = some (.int .u64 0)) :
    Calls Tryz.prog 63 #[.int .i64 lo, .int .i64 hi] w fun e w' => e = .returned (.agg #[.int .u64 (wiL lo hi), .int .u64 (wiH lo hi)]) ∧ Below w.heap.size w w' := by
  go_enter Tryz.func63, Tryz.ntmps63
  go_wp2
  all_goals (refine bodyPost_ret (v := .agg #[.int .u64 (wiL lo hi), .int .u64 (wiH lo hi)]) ?_ rfl ⟨rfl, (Below.refl _ _).alloc (Nat.le_refl _) _⟩)
  all_goals (simp [results, Tryz.results63, go_sem])
  all_goals (unfold wiL wiH; omega)
def hasB (a b n : Int) : Bool := decide (a ≤ n ∧ (1099511627776 ≤ b ∨ n ≤ b))
theorem has_any (a b n : Int) (w : World)  :
    Calls Tryz.prog 85 #[.agg #[.int .i64 a, .int .i64 b], .int .i64 n] w fun e w' => e = .returned (.bool (hasB a b n)) ∧ Below w.heap.size w w' := by
  go_enter Tryz.func85, Tryz.ntmps85
  go_wp2
  all_goals
    go_ret
    exact ⟨ret_bool (by rw [Bool.eq_iff_iff]; simp [hasB]; omega), bel⟩
end Go.Proofs.YtiohiiekaofkbaaGreatDoor
/- Contracts of span's times, And, Times and of the reference's Mul, And, Times. -/
namespace Go.Proofs.YtiohiiekaofkbaaGreatDoor
open Go.RowKit
def capM (n m : Int) : Int := if 1099511627776 < n * m then 1099511627776 else n * m
theorem div_lt {n m : Int} (hm : 0 < m) : 1099511627776 / m < n ↔ 1099511627776 < n * m := Int.ediv_lt_iff_lt_mul hm
set_option maxHeartbeats 400000 in
theorem times_any (n m : Int) (w : World) (hn : 0 ≤ n) (_hn2 : n ≤ 9223372036854775807) (hm : 0 ≤ m) (hm2 : m ≤ 9223372036854775807) :
    Calls Tryz.prog 88 #[.int .i64 n, .int .i64 m] w fun e w' => e = .returned (.int .i64 (capM n m)) ∧ w = w' := by
  rcases Int.le_iff_lt_or_eq.mp hm with h | h
  · by_cases hd : 1099511627776 / m < n
    · have hD := hid ((div_lt h).mp hd)
      go_enter Tryz.func88, Tryz.ntmps88
      go_wp2
      go_ret
      exact ⟨ret_int (by unfold capM; rw [if_pos hD.out]), rfl⟩
    · have hp : n * m ≤ 1099511627776 := Int.not_lt.mp (fun q => hd ((div_lt h).mpr q))
      have hp0 : 0 ≤ n * m := Int.mul_nonneg hn hm
      have hc : capM n m = n * m := by unfold capM; rw [if_neg (by omega)]
      have hC := hid hc
      clear hc
      go_enter Tryz.func88, Tryz.ntmps88
      go_wp2
      all_goals
        go_ret
        exact ⟨ret_int (by rw [hC.out]; try omega), rfl⟩
  · subst h
    go_enter Tryz.func88, Tryz.ntmps88
    go_wp2
    all_goals
      go_ret
      exact ⟨ret_int (by simp [capM]), rfl⟩
def andMax (b d : Int) : Int := if 1099511627776 ≤ b ∨ 1099511627776 ≤ d ∨ 1099511627776 < b + d then 1099511627776 else b + d
set_option maxHeartbeats 400000 in
theorem and_any (a b c d : Int) (w : World) (ha : 0 ≤ a) (ha2 : a ≤ 4000000000000000000) (hc : 0 ≤ c) (hc2 : c ≤ 4000000000000000000) (hb : 0 ≤ b) (hd : 0 ≤ d) :
    Calls Tryz.prog 69 #[.agg #[.int .i64 a, .int .i64 b], .agg #[.int .i64 c, .int .i64 d]] w fun e w' => e = .returned (.agg #[.int .i64 (a + c), .int .i64 (andMax b d)]) ∧ Below w.heap.size w w' := by
  go_enter Tryz.func69, Tryz.ntmps69
  go_wp2
  all_goals (refine bodyPost_ret (v := .agg #[.int .i64 (a + c), .int .i64 (andMax b d)]) ?_ rfl ⟨rfl, bel⟩)
  all_goals (simp [results, Tryz.results69, go_sem])
  all_goals (unfold andMax; omega)
def tmMin (a n : Int) : Int := if n ≤ 0 then 0 else capM n a
def tmMax (b n : Int) : Int := if n ≤ 0 then 0 else if 1099511627776 ≤ b then 1099511627776 else capM n b
set_option maxHeartbeats 400000 in
theorem tms_any (a b n : Int) (w : World) (ha : 0 ≤ a) (ha2 : a ≤ 4000000000000000000) (hb : 0 ≤ b) (hb2 : b ≤ 9223372036854775807) (hn : n ≤ 9223372036854775807) :
    Calls Tryz.prog 68 #[.agg #[.int .i64 a, .int .i64 b], .int .i64 n] w fun e w' => e = .returned (.agg #[.int .i64 (tmMin a n), .int .i64 (tmMax b n)]) ∧ Below w.heap.size w w' := by
  go_enter Tryz.func68, Tryz.ntmps68
  go_wp2_with (first | (go_at_call 88; refine (times_any _ _ _ (by omega) (by omega) (by omega) (by omega)).mono ?_; rintro e w' ⟨rfl, rfl⟩) | go_in)
  all_goals (refine bodyPost_ret (v := .agg #[.int .i64 (tmMin a n), .int .i64 (tmMax b n)]) ?_ rfl ⟨rfl, bel⟩)
  all_goals (simp [results, Tryz.results68, go_sem])
  all_goals (unfold tmMin tmMax; constructor <;> (repeat (first | rw [if_pos (by omega)] | rw [if_neg (by omega)])))
end Go.Proofs.YtiohiiekaofkbaaGreatDoor
/- Contracts of Counts and Sizes. -/
namespace Go.Proofs.YtiohiiekaofkbaaGreatDoor
set_option linter.unusedVariables false
set_option linter.unusedSimpArgs false
open Go.RowKit
def cnLow (b c d r : Int) : Int := if hasB c d r = true ∧ (r < 1099511627776 ∨ 1099511627776 ≤ d) then 0 else if 1099511627776 ≤ b then 1 else (r - d + b - 1) / b
def cnHigh (a c r : Int) : Int := (r - c) / a
def cnNone (b c d r : Int) : Prop := r < c ∨ (1099511627776 ≤ r ∧ b < 1099511627776 ∧ d < 1099511627776)
instance (b c d r : Int) : Decidable (cnNone b c d r) := inferInstanceAs (Decidable (_ ∨ _))
def cnL (a b c d r : Int) : Int := if cnNone b c d r then 1 else wiL (cnLow b c d r) (cnHigh a c r)
def cnH (a b c d r : Int) : Int := if cnNone b c d r then 0 else wiH (cnLow b c d r) (cnHigh a c r)
set_option maxHeartbeats 1000000 in
theorem counts_none (a b c d r : Int) (w : World) (hn : cnNone b c d r) (hc : 0 ≤ c) (hc2 : c ≤ 1099511627776) (hd : 0 ≤ d) (hd2 : d ≤ 9223372036854775807) (hr : 0 ≤ r) (hr2 : r ≤ 1099511627776) (hw : 2 < w.heap.size) (g0 : w.cell? ⟨2, 0, none⟩ = some (.int .u64 1)) (g1 : w.cell? ⟨2, 1, none⟩ = some (.int .u64 0)) :
    Calls Tryz.prog 65 #[.agg #[.int .i64 a, .int .i64 b], .agg #[.int .i64 c, .int .i64 d], .int .i64 r] w fun e w' => e = .returned (.agg #[.int .u64 1, .int .u64 0]) ∧ Below w.heap.size w w' := by
  obtain ⟨hG1, hG2, hG3, hG4, hG5, hG6⟩ := glob_far hw g0; obtain ⟨hH1, hH2, hH3, hH4, hH5, hH6⟩ := glob_far hw g1
  unfold cnNone at hn
  by_cases h1 : r < c
  · clear hn
    go_enter Tryz.func65, Tryz.ntmps65
    go_wp2
    refine bodyPost_ret (v := .agg #[.int .u64 1, .int .u64 0]) ?_ rfl ⟨rfl, bel⟩
    simp [results, Tryz.results65, go_sem]
  · obtain ⟨h2, h3, h4⟩ := hn.resolve_left h1
    clear hn
    go_enter Tryz.func65, Tryz.ntmps65
    go_wp2
    all_goals (refine bodyPost_ret (v := .agg #[.int .u64 1, .int .u64 0]) ?_ rfl ⟨rfl, bel⟩)
    all_goals (simp [results, Tryz.results65, go_sem])
set_option maxHeartbeats 1000000 in
theorem counts_in (a b c d r : Int) (w : World) (ha : 1 ≤ a) (ha2 : a ≤ 1099511627776) (hb : 1 ≤ b) (hb2 : b ≤ 9223372036854775807) (h1 : c ≤ r) (h2 : r < 1099511627776 ∨ 1099511627776 ≤ d) (h3 : 1099511627776 ≤ d ∨ r ≤ d) (hc : 0 ≤ c) (hc2 : c ≤ 1099511627776) (hd : 0 ≤ d) (hd2 : d ≤ 9223372036854775807) (hr : 0 ≤ r) (hr2 : r ≤ 1099511627776) (hw : 2 < w.heap.size) (g0 : w.cell? ⟨2, 0, none⟩ = some (.int .u64 1)) (g1 : w.cell? ⟨2, 1, none⟩ = some (.int .u64 0)) :
    Calls Tryz.prog 65 #[.agg #[.int .i64 a, .int .i64 b], .agg #[.int .i64 c, .int .i64 d], .int .i64 r] w fun e w' => e = .returned (.agg #[.int .u64 (wiL 0 ((r - c) / a)), .int .u64 (wiH 0 ((r - c) / a))]) ∧ Below w.heap.size w w' := by
  obtain ⟨hG1, hG2, hG3, hG4, hG5, hG6⟩ := glob_far hw g0; obtain ⟨hH1, hH2, hH3, hH4, hH5, hH6⟩ := glob_far hw g1
  have q0 := Int.ediv_nonneg (a := r - c) (b := a) (by omega) (by omega)
  have q1 : (r - c) / a ≤ r - c := Int.ediv_le_self _ (by omega)
  rcases Int.le_iff_lt_or_eq.mp ha with h | h
  · go_enter Tryz.func65, Tryz.ntmps65
    go_wp2_with (first | (go_at_call 63; refine (within_any _ _ _ (by omega) (by omega) (by omega) (by omega) (by first | exact Nat.le_refl _ | (simp; done) | (simp; omega) | omega) (by go_simp) (by go_simp)).mono ?_; rintro e w' ⟨rfl, hb1⟩; obtain ⟨hc1, hf1⟩ := bcell hb1; have hz1 := hb1.size; (try simp at hz1); (try replace hz1 := Nat.lt_of_succ_le hz1)) | go_in)
    all_goals
      obtain ⟨q0, q1⟩ := set2 (W := w') (g := w.heap.size + 1 + 1) (x := .int .u64 0) (y := .int .u64 0) (u := .int .u64 (wiL 0 ((r - c) / a))) (v := .int .u64 (wiH 0 ((r - c) / a))) (by go_simp) (by go_simp)
      refine bodyPost_ret (v := .agg #[.int .u64 (wiL 0 ((r - c) / a)), .int .u64 (wiH 0 ((r - c) / a))]) ?_ rfl ⟨rfl, bel⟩
      simp [results, Tryz.results65, go_sem, q0, q1]
  · subst h
    have e1 : (r - c) / 1 = r - c := Int.ediv_one _
    rw [e1] at q0 ⊢
    clear q1 e1
    go_enter Tryz.func65, Tryz.ntmps65
    go_wp2_with (first | (go_at_call 63; refine (within_any _ _ _ (by omega) (by omega) (by omega) (by omega) (by first | exact Nat.le_refl _ | (simp; done) | (simp; omega) | omega) (by go_simp) (by go_simp)).mono ?_; rintro e w' ⟨rfl, hb1⟩; obtain ⟨hc1, hf1⟩ := bcell hb1; have hz1 := hb1.size; (try simp at hz1); (try replace hz1 := Nat.lt_of_succ_le hz1)) | go_in)
    all_goals
      obtain ⟨q0, q1⟩ := set2 (W := w') (g := w.heap.size + 1 + 1) (x := .int .u64 0) (y := .int .u64 0) (u := .int .u64 (wiL 0 (r - c))) (v := .int .u64 (wiH 0 (r - c))) (by go_simp) (by go_simp)
      refine bodyPost_ret (v := .agg #[.int .u64 (wiL 0 (r - c)), .int .u64 (wiH 0 (r - c))]) ?_ rfl ⟨rfl, bel⟩
      simp [results, Tryz.results65, go_sem, q0, q1]
end Go.Proofs.YtiohiiekaofkbaaGreatDoor
/- Contract of Fits. -/
namespace Go.Proofs.YtiohiiekaofkbaaGreatDoor
set_option linter.unusedVariables false
set_option linter.unusedSimpArgs false
open Go.RowKit
def fitV (T low lo : Int) : Int := if low < lo then low + (lo - low + T - 1) / T * T else low
def fitOne (T M low : Int) (x : Int × Int) : Bool := decide (x.1 ≤ x.2 ∧ low ≤ M ∧ fitV T low x.1 ≤ x.2 ∧ fitV T low x.1 ≤ M)
def fitsB (T M low : Int) (l : List (Int × Int)) : Bool := l.any (fitOne T M low)
def wrapV (T low lo : Int) : Int := IntKind.u64.wrap (low + IntKind.u64.wrap (IntKind.u64.wrap (IntKind.u64.wrap (lo - low + T) - 1) / T * T))
theorem fitV_ge {T low lo : Int} (h1 : 1 ≤ T) (h : low < lo) : lo ≤ fitV T low lo ∧ fitV T low lo ≤ lo + T - 1 := by
  unfold fitV; rw [if_pos h]
  have a := Int.ediv_mul_le (lo - low + T - 1) (b := T) (by omega)
  have b := Int.lt_ediv_add_one_mul_self (lo - low + T - 1) (b := T) (by omega)
  rw [Int.add_mul, Int.one_mul] at b
  omega
theorem wrapV_eq {T low lo : Int} (h0 : 0 ≤ low) (h1 : 1 ≤ T) (h2 : T ≤ 9223372036854775808) (h3 : low < T) (h : low < lo) (h4 : lo < 9223372036854775808) : wrapV T low lo = fitV T low lo := by
  have g := fitV_ge h1 h
  unfold fitV at *; rw [if_pos h] at *
  unfold wrapV
  have e1 : IntKind.u64.wrap (IntKind.u64.wrap (lo - low + T) - 1) = lo - low + T - 1 := by simp only [wu]; omega
  rw [e1]
  simp only [wu]
  omega
theorem one_gt {T M low lo hi : Int} (h0 : 0 ≤ low) (h1 : 1 ≤ T) (h2 : T ≤ 9223372036854775808) (h3 : low < T) (hM : M ≤ 9223372036854775807) (h : low < lo) (hh : lo ≤ hi) (hm : low ≤ M) :
    (lo ≤ wrapV T low lo ∧ wrapV T low lo ≤ if M < hi then M else hi) ↔ fitOne T M low (lo, hi) = true := by
  have g := fitV_ge h1 h
  simp only [fitOne, decide_eq_true_eq]
  by_cases h4 : lo < 9223372036854775808
  · rw [wrapV_eq h0 h1 h2 h3 h h4]
    split <;> omega
  · split <;> omega
theorem one_le {T M low lo hi : Int} (h : lo ≤ low) (hh : lo ≤ hi) (hm : low ≤ M) : (low ≤ if M < hi then M else hi) ↔ fitOne T M low (lo, hi) = true := by
  simp only [fitOne, decide_eq_true_eq, fitV, if_neg (show ¬ low < lo by omega)]
  split <;> omega
theorem one_no {T M low lo hi : Int} (h : ¬ (lo ≤ hi ∧ low ≤ M)) : fitOne T M low (lo, hi) = false := by
  simp only [fitOne, decide_eq_false_iff_not]
  omega
def RangesAt (w : World) (g : Nat) (l : List (Int × Int)) : Prop := ∀ (i : Nat) (h : i < l.length), w.cell? ⟨g, i * 2, none⟩ = some (.int .u64 l[i].1) ∧ w.cell? ⟨g, i * 2 + 1, none⟩ = some (.int .u64 l[i].2) ∧ 0 ≤ l[i].1 ∧ l[i].1 ≤ 18446744073709551615 ∧ 0 ≤ l[i].2 ∧ l[i].2 ≤ 18446744073709551615
theorem any_take {α : Type} (p : α → Bool) (l : List α) (k : Nat) (h : k < l.length) : (l.take (k + 1)).any p = ((l.take k).any p || p l[k]) := by
  rw [List.take_succ_eq_append_getElem h, List.any_append]; simp
theorem any_of_mem {α : Type} (p : α → Bool) (l : List α) (k : Nat) (h : k < l.length) (hp : p l[k] = true) : l.any p = true :=
  List.any_eq_true.mpr ⟨l[k], List.getElem_mem h, hp⟩
set_option maxHeartbeats 2000000 in
theorem fits_low (g : Nat) (cap : Nat) (l : List (Int × Int)) (low shift left bits T B R : Int) (w : World) (hl : l.length ≤ 4611686018427387904) (hg : g < w.heap.size) (hR : Hid (RangesAt w g l)) (hlo : 0 ≤ low) (hlo2 : low < T) (hs : 0 ≤ shift) (hs2 : shift ≤ 63) (hf : 0 ≤ left) (hf2 : left ≤ 9) (hb : 0 ≤ bits) (hb2 : bits ≤ 63) (hT : (2 : Int) ^ shift.toNat = T) (hT2 : T ≤ 9223372036854775808) (hB : (2 : Int) ^ bits.toNat = B) (hB1 : 1 ≤ B) (hB2 : B ≤ 9223372036854775808) (hRR : (2 : Int) ^ (7 * left).toNat = R) (hR1 : 1 ≤ R) (hR2 : R ≤ 9223372036854775808) (hlt : bits ≤ 7 * left + shift) :
    Calls Tryz.prog 61 #[.slice (some ⟨g, 0, none⟩) l.length cap, .int .u64 low, .int .i64 shift, .int .i64 left, .int .i64 bits] w fun e w' => e = .returned (.bool (fitsB T (B - 1) low l)) ∧ Below w.heap.size w w' := by
  go_enter Tryz.func61, Tryz.ntmps61
  go_wp2
  go_step3
  go_wp2
  go_step3
  go_wp2
  go_loopw [42] (fun i wr => ∃ k : Nat, k ≤ l.length ∧ i = .int .i64 k ∧ (l.take k).any (fitOne T (B - 1) low) = false ∧ Below w.heap.size w wr) (fun i wr => l.length - (intOf i).toNat)
  case atStart => exact ⟨0, Nat.zero_le _, rfl, by simp, Below.refl _ _⟩
  case round =>
    obtain ⟨k, hk, rfl, hany, hbel⟩ := hrel
    by_cases hltk : k < l.length
    · obtain ⟨e1, e2, e3, e4, e5, e6⟩ := hR.out k hltk
      have hst := hbel.size
      have f1 := (hbel.cell (p := ⟨g, k * 2, none⟩) hg).trans e1
      have f2 := (hbel.cell (p := ⟨g, k * 2 + 1, none⟩) hg).trans e2
      have hO : ∀ b, fitOne T (B - 1) low (l[k].1, l[k].2) = b → fitOne T (B - 1) low l[k] = b := fun b h => h
      generalize hl1 : l[k].1 = lo at *
      generalize hl2 : l[k].2 = hi at *
      clear e1 e2
      have hgr : g < wr.heap.size := by omega
      have HA := hid hany
      have HO := hid hO
      have HB := hid hbel
      have HG := hid (one_gt (T := T) (M := B - 1) (low := low) (lo := lo) (hi := hi) (by omega) (by omega) (by omega) (by omega) (by omega))
      have HE := hid (one_le (T := T) (M := B - 1) (low := low) (lo := lo) (hi := hi))
      have HN := hid (one_no (T := T) (M := B - 1) (low := low) (lo := lo) (hi := hi))
      clear hany hl1 hl2 hbel hO
      go_wp2
      all_goals first
        | (go_roundw
           case rel =>
             refine ⟨k + 1, by omega, by go_num, ?_, bel⟩
             rw [any_take _ _ _ hltk, HA.out, Bool.false_or]
             refine HO.out _ ?_
             first
               | exact HN.out (by omega)
               | (refine Bool.eq_false_iff.mpr (fun q => ?_)
                  first
                    | (have z := (HG.out (by omega) (by omega) (by omega)).mpr q; unfold wrapV at z; omega)
                    | (have z := (HE.out (by omega) (by omega) (by omega)).mpr q; omega))
           case measure => simp [intOf]; omega)
        | (try rw [Exit.noGoto_ret]
           go_ret
           refine ⟨ret_bool (any_of_mem _ l k hltk (HO.out _ ?_)).symm, bel⟩
           first
             | (refine (HG.out (by omega) (by omega) (by omega)).mp ?_; unfold wrapV; omega)
             | (refine (HE.out (by omega) (by omega) (by omega)).mp ?_; omega))
    · have hkk : k = l.length := by omega
      have HA := hid hany
      clear hany
      have HK := hid hkk
      clear hkk
      go_wp2
      rw [Exit.noGoto_ret]
      go_ret
      exact ⟨ret_bool (by have h := HA.out; rw [HK.out, List.take_length] at h; exact h.symm), hbel⟩
set_option maxHeartbeats 2000000 in
theorem fits_rest (g : Nat) (cap : Nat) (l : List (Int × Int)) (low shift left bits T B R : Int) (w : World) (hl : l.length ≤ 4611686018427387904) (hg : g < w.heap.size) (hR : Hid (RangesAt w g l)) (hlo : 0 ≤ low) (hlo2 : low < T) (hs : 0 ≤ shift) (hs2 : shift ≤ 63) (hf : 0 ≤ left) (hf2 : left ≤ 9) (hb : 0 ≤ bits) (hb2 : bits ≤ 63) (hT : (2 : Int) ^ shift.toNat = T) (hT2 : T ≤ 9223372036854775808) (hB : (2 : Int) ^ bits.toNat = B) (hB1 : 1 ≤ B) (hB2 : B ≤ 9223372036854775808) (hRR : (2 : Int) ^ (7 * left).toNat = R) (hR1 : 1 ≤ R) (hR2 : R ≤ 9223372036854775808) (P : Int) (hPe : (R - 1) * T = P) (hP0 : 0 ≤ P) (hP1 : low + P ≤ B - 2) (hlt : 7 * left + shift < bits) :
    Calls Tryz.prog 61 #[.slice (some ⟨g, 0, none⟩) l.length cap, .int .u64 low, .int .i64 shift, .int .i64 left, .int .i64 bits] w fun e w' => e = .returned (.bool (fitsB T (low + P) low l)) ∧ Below w.heap.size w w' := by
  go_enter Tryz.func61, Tryz.ntmps61
  go_wp2
  go_step3
  go_wp2
  go_step3
  go_wp2
  go_loopw [42] (fun i wr => ∃ k : Nat, k ≤ l.length ∧ i = .int .i64 k ∧ (l.take k).any (fitOne T (low + P) low) = false ∧ Below w.heap.size w wr) (fun i wr => l.length - (intOf i).toNat)
  case atStart => exact ⟨0, Nat.zero_le _, rfl, by simp, Below.refl _ _⟩
  case round =>
    obtain ⟨k, hk, rfl, hany, hbel⟩ := hrel
    by_cases hltk : k < l.length
    · obtain ⟨e1, e2, e3, e4, e5, e6⟩ := hR.out k hltk
      have hst := hbel.size
      have f1 := (hbel.cell (p := ⟨g, k * 2, none⟩) hg).trans e1
      have f2 := (hbel.cell (p := ⟨g, k * 2 + 1, none⟩) hg).trans e2
      have hO : ∀ b, fitOne T (low + P) low (l[k].1, l[k].2) = b → fitOne T (low + P) low l[k] = b := fun b h => h
      generalize hl1 : l[k].1 = lo at *
      generalize hl2 : l[k].2 = hi at *
      clear e1 e2
      have hgr : g < wr.heap.size := by omega
      have HA := hid hany
      have HO := hid hO
      have HB := hid hbel
      have HG := hid (one_gt (T := T) (M := low + P) (low := low) (lo := lo) (hi := hi) (by omega) (by omega) (by omega) (by omega) (by omega))
      have HE := hid (one_le (T := T) (M := low + P) (low := low) (lo := lo) (hi := hi))
      have HN := hid (one_no (T := T) (M := low + P) (low := low) (lo := lo) (hi := hi))
      clear hany hl1 hl2 hbel hO
      go_wp2
      all_goals first
        | (go_roundw
           case rel =>
             refine ⟨k + 1, by omega, by go_num, ?_, bel⟩
             rw [any_take _ _ _ hltk, HA.out, Bool.false_or]
             refine HO.out _ ?_
             first
               | exact HN.out (by omega)
               | (refine Bool.eq_false_iff.mpr (fun q => ?_)
                  first
                    | (have z := (HG.out (by omega) (by omega) (by omega)).mpr q; unfold wrapV at z; omega)
                    | (have z := (HE.out (by omega) (by omega) (by omega)).mpr q; omega))
           case measure => simp [intOf]; omega)
        | (try rw [Exit.noGoto_ret]
           go_ret
           refine ⟨ret_bool (any_of_mem _ l k hltk (HO.out _ ?_)).symm, bel⟩
           first
             | (refine (HG.out (by omega) (by omega) (by omega)).mp ?_; unfold wrapV; omega)
             | (refine (HE.out (by omega) (by omega) (by omega)).mp ?_; omega))
    · have hkk : k = l.length := by omega
      have HA := hid hany
      clear hany
      have HK := hid hkk
      clear hkk
      go_wp2
      rw [Exit.noGoto_ret]
      go_ret
      exact ⟨ret_bool (by have h := HA.out; rw [HK.out, List.take_length] at h; exact h.symm), hbel⟩
def mostS (T B R low shift left bits : Int) : Int := if 7 * left + shift < bits then low + (R - 1) * T else B - 1
def fitsI (low shift left bits : Int) (l : List (Int × Int)) : Bool := fitsB (2 ^ shift.toNat) (mostS (2 ^ shift.toNat) (2 ^ bits.toNat) (2 ^ (7 * left).toNat) low shift left bits) low l
theorem pow_bd {n : Int} (h0 : 0 ≤ n) (h : n ≤ 63) : 1 ≤ (2 : Int) ^ n.toNat ∧ (2 : Int) ^ n.toNat ≤ 9223372036854775808 := by
  obtain ⟨k, rfl⟩ : ∃ k : Nat, n = k := ⟨n.toNat, by omega⟩
  have a : (2 : Nat) ^ k ≤ 2 ^ 63 := Nat.pow_le_pow_right (by decide) (by omega)
  have b : 0 < (2 : Nat) ^ k := Nat.pow_pos (by decide)
  have e : ((2 : Int) ^ (k : Int).toNat) = ((2 ^ k : Nat) : Int) := by simp
  rw [e]
  omega
theorem pow_mul_le {a b c : Int} (ha : 0 ≤ a) (hb : 0 ≤ b) (h : a + b < c) : (2 : Int) ^ a.toNat * 2 ^ b.toNat * 2 ≤ 2 ^ c.toNat := by
  obtain ⟨x, rfl⟩ : ∃ k : Nat, a = k := ⟨a.toNat, by omega⟩
  obtain ⟨y, rfl⟩ : ∃ k : Nat, b = k := ⟨b.toNat, by omega⟩
  obtain ⟨z, rfl⟩ : ∃ k : Nat, c = k := ⟨c.toNat, by omega⟩
  have h1 : (2 : Nat) ^ (x + y + 1) ≤ 2 ^ z := Nat.pow_le_pow_right (by decide) (by omega)
  have e : (2 : Int) ^ (x : Int).toNat * 2 ^ (y : Int).toNat * 2 = ((2 ^ (x + y + 1) : Nat) : Int) := by
    simp [Int.pow_add, Int.pow_succ]
  rw [e]
  have e2 : (2 : Int) ^ (z : Int).toNat = ((2 ^ z : Nat) : Int) := by simp
  rw [e2]
  omega
theorem fits_any (g : Nat) (cap : Nat) (l : List (Int × Int)) (low shift left bits : Int) (w : World) (hl : l.length ≤ 4611686018427387904) (hg : g < w.heap.size) (hR : Hid (RangesAt w g l)) (hlo : 0 ≤ low) (hlo2 : low < 2 ^ shift.toNat) (hs : 0 ≤ shift) (hs2 : shift ≤ 63) (hf : 0 ≤ left) (hf2 : left ≤ 9) (hb : 0 ≤ bits) (hb2 : bits ≤ 63) :
    Calls Tryz.prog 61 #[.slice (some ⟨g, 0, none⟩) l.length cap, .int .u64 low, .int .i64 shift, .int .i64 left, .int .i64 bits] w fun e w' => e = .returned (.bool (fitsI low shift left bits l)) ∧ Below w.heap.size w w' := by
  obtain ⟨t1, t2⟩ := pow_bd hs hs2
  obtain ⟨b1, b2⟩ := pow_bd hb hb2
  obtain ⟨r1, r2⟩ := pow_bd (n := 7 * left) (by omega) (by omega)
  by_cases h : 7 * left + shift < bits
  · have h1 := pow_mul_le (a := 7 * left) (b := shift) (c := bits) (by omega) (by omega) h
    have e : fitsI low shift left bits l = fitsB (2 ^ shift.toNat) (low + (2 ^ (7 * left).toNat - 1) * 2 ^ shift.toNat) low l := by unfold fitsI mostS; rw [if_pos h]
    rw [e]
    have h2 : ((2 : Int) ^ (7 * left).toNat - 1) * 2 ^ shift.toNat = 2 ^ (7 * left).toNat * 2 ^ shift.toNat - 2 ^ shift.toNat := by rw [Int.sub_mul, Int.one_mul]
    have h3 : (0 : Int) ≤ (2 ^ (7 * left).toNat - 1) * 2 ^ shift.toNat := Int.mul_nonneg (by omega) (by omega)
    exact fits_rest g cap l low shift left bits _ _ _ w hl hg hR hlo hlo2 hs hs2 hf hf2 hb hb2 rfl t2 rfl b1 b2 rfl r1 r2 _ rfl h3 (by rw [h2] at h3 ⊢; omega) h
  · have e : fitsI low shift left bits l = fitsB (2 ^ shift.toNat) (2 ^ bits.toNat - 1) low l := by unfold fitsI mostS; rw [if_neg h]
    rw [e]
    exact fits_low g cap l low shift left bits _ _ _ w hl hg hR hlo hlo2 hs hs2 hf hf2 hb hb2 rfl t2 rfl b1 b2 rfl r1 r2 (by omega)
theorem fits_nil (cap : Nat) (A : Option Addr) (low shift left bits : Int) (w : World) (hlo : 0 ≤ low) (hlo2 : low < 2 ^ shift.toNat) (hs : 0 ≤ shift) (hs2 : shift ≤ 63) (hf : 0 ≤ left) (hf2 : left ≤ 9) (hb : 0 ≤ bits) (hb2 : bits ≤ 63) :
    Calls Tryz.prog 61 #[.slice A 0 cap, .int .u64 low, .int .i64 shift, .int .i64 left, .int .i64 bits] w fun e w' => e = .returned (.bool false) ∧ Below w.heap.size w w' := by
  go_enter Tryz.func61, Tryz.ntmps61
  go_wp2
  go_step3
  go_wp2
  all_goals
    go_step3
    go_wp2
    go_loopw [42] (fun i wr => i = .int .i64 0 ∧ Below w.heap.size w wr) (fun i wr => 0)
    case atStart => exact ⟨rfl, Below.refl _ _⟩
    case round =>
      obtain ⟨rfl, hbel⟩ := hrel
      go_wp2
      rw [Exit.noGoto_ret]
      go_ret
      exact ⟨rfl, hbel⟩
end Go.Proofs.YtiohiiekaofkbaaGreatDoor
/- The cursor: is a rest in a span; rests further on; may a number come out. -/
namespace Go.Proofs.YtiohiiekaofkbaaGreatDoor
set_option linter.unusedVariables false
set_option linter.unusedSimpArgs false
open Go.RowKit
def chB (a b r : Int) : Bool := if 1099511627776 ≤ r then decide (1099511627776 ≤ b) else hasB a b r
set_option maxHeartbeats 1000000 in
theorem whas_any (a b r : Int) (w : World) :
    Calls Tryz.prog 90 #[.agg #[.int .i64 a, .int .i64 b], .int .i64 r] w fun e w' => e = .returned (.bool (chB a b r)) ∧ Below w.heap.size w w' := by
  by_cases h : 1099511627776 ≤ r
  · go_enter Tryz.func90, Tryz.ntmps90
    go_wp2
    go_ret
    exact ⟨ret_bool (by rw [chB, if_pos h]), bel⟩
  · have e : chB a b r = hasB a b r := by rw [chB, if_neg h]
    rw [e]
    clear e
    go_enter Tryz.func90, Tryz.ntmps90
    go_wp2_with (first | (go_at_call 85; refine (has_any _ _ _ _).mono ?_; rintro e w' ⟨rfl, hb1⟩; (first | have hq1 := hz1 | have hq1 := True.intro); (first | have hq0 := hz0 | have hq0 := True.intro); obtain ⟨hcc, hff⟩ := bcell hb1; have hz1 := hb1.size; (try simp at hz1); (try have hy1 := Nat.lt_of_lt_of_le hq1 hz1); (try have hy0 := Nat.lt_of_lt_of_le hq0 hz1); (try replace hz1 := Nat.lt_of_succ_le hz1); (try have hz0 := Nat.lt_of_succ_lt hz1)))
    go_ret
    exact ⟨rfl, bel⟩
def wiR (p lim j : Int) : Int := if lim < 0 then 1099511627776 else lim - p - j
set_option maxHeartbeats 1000000 in
theorem cwithin_any {g : Nat} {A : Option Addr} {c : Nat} {l : List Int} {p lim : Int} {w : World} (h : CB g A c l p lim w) (j : Int) (j0 : 0 ≤ j) (j1 : j ≤ 1000) (W : World) (hb : Below w.heap.size w W) :
    Calls Tryz.prog 84 #[.pointer (some ⟨g, 0, none⟩), .int .i64 j] W (fun e w' => e = .returned (.int .i64 (wiR p lim j)) ∧ Below W.heap.size W w') := by
  have HR := hid (rest_b (h.below hb))
  have p0 := h.p0
  have p1 := h.p1
  have hl := h.hl
  have l1 := h.l1
  obtain ⟨c0, c1, c2, f1, f2⟩ := h.cu.below hb
  by_cases hlim : lim < 0
  · go_enter Tryz.func84, Tryz.ntmps84
    go_wp2
    go_ret
    exact ⟨ret_int (by rw [wiR, if_pos hlim]), Below.refl _ _⟩
  · have e : rest p lim = lim - p := by rw [rest, if_neg hlim]
    rw [e] at HR
    clear e
    go_enter Tryz.func84, Tryz.ntmps84
    go_wp2_with (first | (go_at_call 16; refine (HR.out _ (Below.refl _ _)).mono ?_; rintro e w' ⟨rfl, hb1⟩))
    go_ret
    exact ⟨ret_int (by rw [wiR, if_neg (by omega)]), hb1⟩
def RowR (w : World) (A : Option Addr) (l : List (Int × Int)) : Prop := l = [] ∨ ∃ g, A = some ⟨g, 0, none⟩ ∧ g < w.heap.size ∧ RangesAt w g l
structure Wants (g k : Nat) (caps : Array Value) (w : World) (rg : Int → List (Int × Int)) : Prop where
  ent : Enters k
  len : ∀ r, (rg r).length ≤ 1000
  call : ∀ r, 0 ≤ r → r ≤ 1099511627776 → ∀ W, Rd g w W → Calls Tryz.prog k (#[.int .i64 r] ++ caps) W (fun e w' => ∃ A c, e = .returned (.slice A (rg r).length c) ∧ RowR w' A (rg r) ∧ Below W.heap.size W w')
theorem Wants.rd {g k : Nat} {caps : Array Value} {w w' : World} {rg : Int → List (Int × Int)} (h : Wants g k caps w rg) (hg : Rd g w w') : Wants g k caps w' rg :=
  ⟨h.ent, h.len, fun r r0 r1 W hW => h.call r r0 r1 W (hg.trans hW)⟩
theorem fits_row {A : Option Addr} {cap : Nat} {l : List (Int × Int)} {low shift left : Int} {w : World} (hl : l.length ≤ 1000) (hR : RowR w A l) (hlo : 0 ≤ low) (hlo2 : low < 2 ^ shift.toNat) (hs : 0 ≤ shift) (hs2 : shift ≤ 63) (hf : 0 ≤ left) (hf2 : left ≤ 9) :
    Calls Tryz.prog 61 #[.slice A l.length cap, .int .u64 low, .int .i64 shift, .int .i64 left, .int .i64 32] w fun e w' => e = .returned (.bool (fitsI low shift left 32 l)) ∧ Below w.heap.size w w' := by
  rcases hR with rfl | ⟨g, rfl, hg, hR⟩
  · exact fits_nil cap A low shift left 32 w hlo hlo2 hs hs2 hf hf2 (by decide) (by decide)
  · exact fits_any g cap l low shift left 32 w (by omega) hg (hid hR) hlo hlo2 hs hs2 hf hf2 (by decide) (by decide)
def openN (rg : Int → List (Int × Int)) (p lim v shift : Int) : Nat → Bool
  | 0 => false
  | n + 1 => openN rg p lim v shift n || (decide (0 ≤ wiR p lim (n + 1 : Nat)) && fitsI v shift (n + 1 : Nat) 32 (rg (wiR p lim (n + 1 : Nat))))
theorem openN_mono {rg : Int → List (Int × Int)} {p lim v shift : Int} {i n : Nat} (h : openN rg p lim v shift i = true) (hi : i ≤ n) : openN rg p lim v shift n = true := by
  induction n with
  | zero => have : i = 0 := by omega
            subst this; exact h
  | succ n ih => rcases Nat.lt_or_ge i (n + 1) with q | q
                 · rw [openN, ih (by omega), Bool.true_or]
                 · have : i = n + 1 := by omega
                   subst this; exact h
theorem openN_step {rg : Int → List (Int × Int)} {p lim v shift : Int} {j : Nat} (j0 : 1 ≤ j) (h : openN rg p lim v shift (j - 1) = false) :
    openN rg p lim v shift j = (decide (0 ≤ wiR p lim j) && fitsI v shift j 32 (rg (wiR p lim j))) := by
  obtain ⟨i, rfl⟩ : ∃ i, j = i + 1 := ⟨j - 1, by omega⟩
  rw [openN, show openN rg p lim v shift i = false from h, Bool.false_or]
set_option maxHeartbeats 4000000 in
theorem open_walk (g : Nat) (A : Option Addr) (c : Nat) (l : List Int) (p lim : Int) (w : World) (k : Nat) (caps : Array Value) (rg : Int → List (Int × Int)) (v shift : Int) (n : Nat)
    (h : CB g A c l p lim w) (hw : Wants g k caps w rg) (hv : 0 ≤ v) (hv2 : v < 2 ^ shift.toNat) (hs : 0 ≤ shift) (hs2 : shift ≤ 63) (hn : n ≤ 9) :
    Calls Tryz.prog 60 #[.pointer (some ⟨g, 0, none⟩), .func (.func k) #[] caps, .int .u64 v, .int .i64 shift, .int .i64 n] w (fun e w' => e = .returned (.bool (openN rg p lim v shift n)) ∧ Below w.heap.size w w') := by
  have HC := hid h
  have HW := hid hw
  have HE : ∀ (args : Array Value) (w : World), (callFunc k args).run Tryz.prog w = .ok (.enter k args) w := hw.ent
  clear h hw
  go_enter Tryz.func60, Tryz.ntmps60
  go_wp2
  go_loopw [11] (fun v11 wr => ∃ j : Nat, v11 = .int .i64 j ∧ 1 ≤ j ∧ j ≤ n + 1 ∧ Hid (openN rg p lim v shift (j - 1) = false) ∧ w.heap.size ≤ wr.heap.size ∧ Hid (Below w.heap.size w wr)) (fun v11 _ => n + 1 - (intOf v11).toNat)
  case atStart => exact ⟨1, by go_num, by omega, by omega, hid rfl, Nat.le_refl _, Below.refl _ _⟩
  case round =>
    obtain ⟨j, rfl, j0, j1, HO, hsz, HB⟩ := hrel
    by_cases hlt : j ≤ n
    · have hlt' : (j : Int) ≤ (n : Int) := by omega
      by_cases hr : 0 ≤ wiR p lim j
      · by_cases hf : fitsI v shift j 32 (rg (wiR p lim j)) = true
        · have HF := hid (openN_mono (i := j) (n := n) (by rw [openN_step j0 HO.out, hf, decide_eq_true hr]; rfl) hlt)
          go_wp2_with (first | (go_at_call 84; refine (cwithin_any HC.out _ (by omega) (by omega) _ HB.out).mono ?_; rintro e w1 ⟨rfl, hb1⟩) | ((with_reducible refine (HW.out.call _ hr (by unfold wiR; have := HC.out.p0; have := HC.out.l2; split <;> omega) _ (grown_of_below (HB.out.trans (hb1.mono HB.out.size)) _)).mono ?_); rintro e w2 ⟨A2, c2, rfl, hR2, hb2⟩; have HR2 := hid hR2; clear hR2) | (go_at_call 61; refine (fits_row (HW.out.len _) HR2.out hv hv2 hs hs2 (by omega) (by omega)).mono ?_; rintro e w3 ⟨rfl, hb3⟩))
          go_ret
          exact ⟨ret_bool HF.out.symm, HB.out.trans ((hb1.trans (hb2.mono hb1.size)).trans (hb3.mono (Nat.le_trans hb1.size hb2.size)) |>.mono HB.out.size)⟩
        · have hf' : fitsI v shift j 32 (rg (wiR p lim j)) = false := by simpa using hf
          have HF := hid (show openN rg p lim v shift j = false by rw [openN_step j0 HO.out, hf', Bool.and_false])
          clear hf
          go_wp2_with (first | (go_at_call 84; refine (cwithin_any HC.out _ (by omega) (by omega) _ HB.out).mono ?_; rintro e w1 ⟨rfl, hb1⟩) | ((with_reducible refine (HW.out.call _ hr (by unfold wiR; have := HC.out.p0; have := HC.out.l2; split <;> omega) _ (grown_of_below (HB.out.trans (hb1.mono HB.out.size)) _)).mono ?_); rintro e w2 ⟨A2, c2, rfl, hR2, hb2⟩; have HR2 := hid hR2; clear hR2) | (go_at_call 61; refine (fits_row (HW.out.len _) HR2.out hv hv2 hs hs2 (by omega) (by omega)).mono ?_; rintro e w3 ⟨rfl, hb3⟩))
          go_roundw
          case rel => exact ⟨j + 1, by go_num, by omega, by omega, hid (by simpa using HF.out), Nat.le_trans hsz (Nat.le_trans hb1.size (Nat.le_trans hb2.size hb3.size)), hid (HB.out.trans ((hb1.trans (hb2.mono hb1.size)).trans (hb3.mono (Nat.le_trans hb1.size hb2.size)) |>.mono HB.out.size))⟩
          case measure => simp [intOf]; omega
      · have HF := hid (show openN rg p lim v shift j = false by rw [openN_step j0 HO.out, decide_eq_false hr, Bool.false_and])
        go_wp2_with (first | (go_at_call 84; refine (cwithin_any HC.out _ (by omega) (by omega) _ HB.out).mono ?_; rintro e w1 ⟨rfl, hb1⟩) | ((with_reducible refine (HW.out.call _ (by omega) (by unfold wiR; have := HC.out.p0; have := HC.out.l2; split <;> omega) _ (grown_of_below (HB.out.trans (hb1.mono HB.out.size)) _)).mono ?_); rintro e w2 ⟨A2, c2, rfl, hR2, hb2⟩; have HR2 := hid hR2; clear hR2) | (go_at_call 61; refine (fits_row (HW.out.len _) HR2.out hv hv2 hs hs2 (by omega) (by omega)).mono ?_; rintro e w3 ⟨rfl, hb3⟩))
        go_roundw
        case rel => exact ⟨j + 1, by go_num, by omega, by omega, hid (by simpa using HF.out), Nat.le_trans hsz hb1.size, hid (HB.out.trans (hb1.mono HB.out.size))⟩
        case measure => simp [intOf]; omega
    · go_wp2
      go_ret
      exact ⟨ret_bool (by have : j = n + 1 := by omega
                          subst this; exact HO.out.symm), HB.out⟩
end Go.Proofs.YtiohiiekaofkbaaGreatDoor
