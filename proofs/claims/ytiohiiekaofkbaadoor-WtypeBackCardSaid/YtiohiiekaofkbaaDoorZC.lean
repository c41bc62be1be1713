/- Some texts of this seat in one. -/
import Derived.Test.YtiohiiekaofkbaaDoorB0
import Derived.Deep.QuietTactic
import Derived.BigQuiet
import Derived.Test.YtiohiiekaofkbaaDoorZS
import Derived.Defers
import Derived.Recover
import Derived.Laws.Pointers
import Derived.StillTailTactics
/- The cursor: its cells, its rest; giving up. -/
namespace Go.Proofs.YtiohiiekaofkbaaDoor
set_option linter.unusedVariables false
set_option linter.unusedSimpArgs false
open Go.RowKit

/-- a cursor: bytes, a place, the innermost limit -/
structure Cu (g : Nat) (sl : Value) (p lim : Int) (w : World) : Prop where
  c0 : w.cell? ⟨g, 0, none⟩ = some sl
  c1 : w.cell? ⟨g, 1, none⟩ = some (.int .i64 p)
  c2 : w.cell? ⟨g, 2, none⟩ = some (.int .i64 lim)
  f1 : w.frozen? ⟨g, 1, none⟩ = false
  f2 : w.frozen? ⟨g, 2, none⟩ = false
/-- the rest -/
def rest (p lim : Int) : Int := if lim < 0 then 1099511627776 else lim - p
/-- what it gives up with -/
def stopV (p e : Int) : Value := .iface 138 (.agg #[.int .i64 p, .int .i64 e])
def Stops (p er : Int) (e : Ending) : Prop := e = .panicked [{ v := stopV p er, recovered := false }]

set_option maxHeartbeats 1000000 in
theorem rest_walk (g : Nat) (sl : Value) (p lim : Int) (w : World) (h : Cu g sl p lim w) (p0 : 0 ≤ p) (p1 : p ≤ 4611686018427387904) (l1 : lim ≤ 4611686018427387904) :
    Calls Tryd.prog 68 #[.pointer (some ⟨g, 0, none⟩)] w (fun e w' => e = .returned (.int .i64 (rest p lim)) ∧ ∃ n, w' = w.drewN n) := by
  obtain ⟨c0, c1, c2, f1, f2⟩ := h
  by_cases hl : lim < 0
  · go_enter Tryd.func68, Tryd.ntmps68
    go_wp2
    go_ret
    exact ⟨ret_int (by rw [rest, if_pos hl]), 0, rfl⟩
  · have hr : rest p lim = lim - p := by rw [rest, if_neg hl]
    have hl0 : 0 ≤ lim := by omega
    rw [hr]
    clear hr
    go_enter Tryd.func68, Tryd.ntmps68
    go_upto_region 3 with (fail)
    go_quiet (fail)
    go_wp2_with fail
    go_ret
    exact ⟨rfl, nq, rfl⟩

set_option maxHeartbeats 1000000 in
theorem need_yes (p : Int) (w : World) : Calls Tryd.prog 92 #[.bool true, .int .i64 p] w (fun e w' => e = .returned (.tuple #[]) ∧ w' = w) := by
  go_enter Tryd.func92, Tryd.ntmps92
  go_wp2
  go_end0
  exact ⟨rfl, rfl⟩
set_option maxHeartbeats 1000000 in
theorem need_no (p : Int) (w : World) : Calls Tryd.prog 92 #[.bool false, .int .i64 p] w (fun e w' => Stops p 2 e ∧ w' = w) := by
  go_enter Tryd.func92, Tryd.ntmps92
  go_wp2
  exact ⟨rfl, rfl, rfl⟩

/-- bytes that are only read -/
def BytesAt (A : Option Addr) (l : List Int) (w : World) : Prop := l = [] ∨ ∃ ad, A = some ad ∧ ∀ (j : Nat) (x : Int), l[j]? = some x → w.cell? (ad.add j) = some (.int .u8 x)
/-- what a reader leaves: all but the cursor's own block is as it was -/
abbrev Rd (g : Nat) (w w' : World) : Prop := w.grownBy w' (some g)
theorem Cu.lt {g : Nat} {sl : Value} {p lim : Int} {w : World} (h : Cu g sl p lim w) : g < w.heap.size := cell_lt h.c0
theorem Cu.below {g : Nat} {sl : Value} {p lim : Int} {w w' : World} (h : Cu g sl p lim w) (hb : Below w.heap.size w w') : Cu g sl p lim w' := by
  have hl := h.lt
  have hc : ∀ i, w'.cell? ⟨g, i, none⟩ = w.cell? ⟨g, i, none⟩ := fun i => hb.cell (p := ⟨g, i, none⟩) hl
  have hf : ∀ i, w'.frozen? ⟨g, i, none⟩ = w.frozen? ⟨g, i, none⟩ := fun i => hb.frozen (p := ⟨g, i, none⟩) hl
  exact ⟨(hc 0).trans h.c0, (hc 1).trans h.c1, (hc 2).trans h.c2, (hf 1).trans h.f1, (hf 2).trans h.f2⟩
theorem grown_of_below {w w' : World} (h : Below w.heap.size w w') (row : Option Nat) : w.grownBy w' row := ⟨h.os, h.tape, h.output, h.size, fun i hi _ => h.block i hi⟩

/-- the next byte, or with what it gives up, and where -/
def nextR (l : List Int) (p lim : Int) : Except (Int × Int) Int := if rest p lim ≤ 0 then .error (p, 2) else match l[p.toNat]? with | some x => .ok x | none => .error (l.length, 1)

theorem keepN {g : Nat} {a b c : Value} {w0 W W' : World} {B : Nat} (h : W.cell? ⟨g, 0, none⟩ = some a ∧ W.cell? ⟨g, 1, none⟩ = some b ∧ W.cell? ⟨g, 2, none⟩ = some c ∧ Below B w0 W ∧ B ≤ W.heap.size) (hb : Below W.heap.size W W') :
    W'.cell? ⟨g, 0, none⟩ = some a ∧ W'.cell? ⟨g, 1, none⟩ = some b ∧ W'.cell? ⟨g, 2, none⟩ = some c ∧ Below B w0 W' ∧ B ≤ W'.heap.size := by
  have hl : g < W.heap.size := cell_lt h.1
  have hc : ∀ i, W'.cell? ⟨g, i, none⟩ = W.cell? ⟨g, i, none⟩ := fun i => hb.cell (p := ⟨g, i, none⟩) hl
  exact ⟨(hc 0).trans h.1, (hc 1).trans h.2.1, (hc 2).trans h.2.2.1, h.2.2.2.1.trans (hb.mono h.2.2.2.2), Nat.le_trans h.2.2.2.2 hb.size⟩
theorem below_drewN (w : World) (n : Nat) : Below w.heap.size w (w.drewN n) := ⟨rfl, rfl, rfl, Nat.le_refl _, fun _ _ => rfl⟩

set_option maxHeartbeats 4000000 in
theorem next_lim (g : Nat) (A : Option Addr) (c : Nat) (l : List Int) (p lim : Int) (w : World) (h : Cu g (.slice A l.length c) p lim w) (p0 : 0 ≤ p) (p1 : p ≤ l.length) (hl : l.length ≤ 1000000000) (l1 : lim ≤ 4611686018427387904) (hr : rest p lim ≤ 0) :
    Calls Tryd.prog 141 #[.pointer (some ⟨g, 0, none⟩)] w (fun e w' => Stops p 2 e ∧ Rd g w w') := by
  have HR := hid (fun W (hb : Below w.heap.size w W) => rest_walk g (.slice A l.length c) p lim W (h.below hb) p0 (by omega) l1)
  have HN := hid (fun W => need_no p W)
  have hc := h
  obtain ⟨c0, c1, c2, f1, f2⟩ := h
  go_enter Tryd.func141, Tryd.ntmps141
  go_upto_region 1 with (fail)
  have S0 : w.cell? ⟨g, 0, none⟩ = some (.slice A l.length c) ∧ w.cell? ⟨g, 1, none⟩ = some (.int .i64 p) ∧ w.cell? ⟨g, 2, none⟩ = some (.int .i64 lim) ∧ Below w.heap.size w w ∧ w.heap.size ≤ w.heap.size := ⟨c0, c1, c2, Below.refl _ _, Nat.le_refl _⟩
  clear c0 c1 c2 f1 f2 hc
  refine wp_region_held_drew (S := (fun W => W.cell? ⟨g, 0, none⟩ = some (.slice A l.length c) ∧ W.cell? ⟨g, 1, none⟩ = some (.int .i64 p) ∧ W.cell? ⟨g, 2, none⟩ = some (.int .i64 lim) ∧ Below w.heap.size w W ∧ w.heap.size ≤ W.heap.size)) (by kernel_rfl) ?hSa1 (fun hHeld => ?goa1)
  case hSa1 => exact keepN S0 (Below.drew (Below.refl _ _))
  refine wpAnyH_take (i := 0) (oi := { dst := some 3, op := Go.Op.move (Go.Operand.tmp 0), type := 81, pos := "cursor.go:77", after := #[], guard := none }) (v := ?_) rfl (by kernel_rfl) (by kernel_rfl) (by kernel_rfl) (fun _ _ _ h => h) (Or.inl ⟨by rfl, ?hya2⟩) (by assumption) ?resta2
  case hya2 => (intro w hSw; (try dsimp only at hSw); go_simp; first | (with_reducible rfl) | (rw [if_neg (by omega)]) | skip)
  simp only [Act.put, List.setIfInBounds_toArray, List.set_cons_zero, List.set_cons_succ]
  refine wpAnyH_take (i := 3) (oi := { dst := some 6, op := Go.Op.move (Go.Operand.tmp 0), type := 81, pos := "cursor.go:77", after := #[], guard := none }) (v := ?_) rfl (by kernel_rfl) (by kernel_rfl) (by kernel_rfl) (fun _ _ _ h => h) (Or.inl ⟨by rfl, ?hya3⟩) (by assumption) ?resta3
  case hya3 => (intro w hSw; (try dsimp only at hSw); go_simp; first | (with_reducible rfl) | (rw [if_neg (by omega)]) | skip)
  simp only [Act.put, List.setIfInBounds_toArray, List.set_cons_zero, List.set_cons_succ]
  refine wpAnyH_take (i := 4) (oi := { dst := some 7, op := Go.Op.nilCheck (Go.Operand.tmp 6), type := 0, pos := "cursor.go:77", after := #[{ on := 3, ground := Go.Ground.data }], guard := none }) (v := ?_) rfl (by kernel_rfl) (by kernel_rfl) (by kernel_rfl) (fun _ _ _ h => h) (Or.inl ⟨by rfl, ?hya4⟩) (by assumption) ?resta4
  case hya4 => (intro w hSw; (try dsimp only at hSw); go_simp; first | (with_reducible rfl) | (rw [if_neg (by omega)]) | skip)
  simp only [Act.put, List.setIfInBounds_toArray, List.set_cons_zero, List.set_cons_succ]
  refine wpAnyH_take (i := 5) (oi := { dst := some 8, op := Go.Op.fieldAddr 136 (Go.Operand.tmp 7) 1, type := 0, pos := "cursor.go:77", after := #[{ on := 4, ground := Go.Ground.data }], guard := none }) (v := ?_) rfl (by kernel_rfl) (by kernel_rfl) (by kernel_rfl) (fun _ _ _ h => h) (Or.inl ⟨by rfl, ?hya5⟩) (by assumption) ?resta5
  case hya5 => (intro w hSw; (try dsimp only at hSw); go_simp; first | (with_reducible rfl) | (rw [if_neg (by omega)]) | skip)
  simp only [Act.put, List.setIfInBounds_toArray, List.set_cons_zero, List.set_cons_succ]
  refine wpAnyH_take (i := 6) (oi := { dst := some 9, op := Go.Op.load 3 (Go.Operand.tmp 8), type := 3, pos := "cursor.go:77", after := #[{ on := 5, ground := Go.Ground.data }], guard := none }) (v := ?_) rfl (by kernel_rfl) (by kernel_rfl) (by kernel_rfl) (fun _ _ _ h => h) (Or.inl ⟨by rfl, ?hya6⟩) (by assumption) ?resta6
  case hya6 => (intro w hSw; (try dsimp only at hSw); go_simp; first | (with_reducible rfl) | (rw [if_neg (by omega)]) | skip)
  simp only [Act.put, List.setIfInBounds_toArray, List.set_cons_zero, List.set_cons_succ]
  refine wpAnyH_ready (rs := [1]) (by kernel_rfl) (by simp) ?_
  refine AllReadyH.cons (o := { dst := some 4, op := Go.Op.call { callee := Go.Callee.value (Go.Operand.func 68), args := #[Go.Operand.tmp 3], argTypes := #[81] }, type := 3, pos := "cursor.go:77", after := #[{ on := 0, ground := Go.Ground.data }], guard := none }) rfl (fun K hK => ?_) AllReadyH.nil
  go_simp
  go_at_call 68; (with_reducible refine (HR.out _ hHeld.2.2.2.1).mono ?_); rintro e w1 ⟨rfl, n1, rfl⟩
  refine hK.out _ _ ?_ (fun hHeld => ?_)
  · (try dsimp only); exact keepN hHeld (below_drewN _ _)
  clear hK K
  try simp only [Act.put, List.setIfInBounds_toArray, List.set_cons_zero, List.set_cons_succ]
  refine wpAnyH_take (i := 2) (oi := { dst := some 5, op := Go.Op.binOp Go.BinOp.gtr 3 (Go.Operand.tmp 4) (Go.Operand.const (Go.Value.int Go.IntKind.i64 0)) 3, type := 4, pos := "cursor.go:77", after := #[{ on := 1, ground := Go.Ground.data }], guard := none }) (v := ?_) rfl (by kernel_rfl) (by kernel_rfl) (by kernel_rfl) (fun _ _ _ h => h) (Or.inl ⟨by rfl, ?hya7⟩) (by assumption) ?resta7
  case hya7 => (intro w hSw; (try dsimp only at hSw); go_simp; first | (with_reducible rfl) | (rw [if_neg (by omega)]) | skip)
  simp only [Act.put, List.setIfInBounds_toArray, List.set_cons_zero, List.set_cons_succ]
  refine wpAnyH_ready (rs := [7]) (by kernel_rfl) (by simp) ?_
  refine AllReadyH.cons (o := { dst := some 10, op := Go.Op.call { callee := Go.Callee.value (Go.Operand.func 92), args := #[Go.Operand.tmp 5, Go.Operand.tmp 9], argTypes := #[4, 3] }, type := 0, pos := "cursor.go:77", after := #[{ on := 2, ground := Go.Ground.data }, { on := 6, ground := Go.Ground.data }, { on := 1, ground := Go.Ground.chain }], guard := none }) rfl (fun K hK => ?_) AllReadyH.nil
  go_simp
  rw [decide_eq_false (show ¬ 0 < rest p lim by omega)]; go_at_call 92; (with_reducible refine (HN.out _).mono ?_); rintro e w1 ⟨rfl, rfl⟩; exact ⟨rfl, rfl, grown_of_below (below_drewN w _) _⟩


set_option maxHeartbeats 4000000 in
theorem next_end (g : Nat) (A : Option Addr) (c : Nat) (l : List Int) (p lim : Int) (w : World) (h : Cu g (.slice A l.length c) p lim w) (p0 : 0 ≤ p) (p1 : p ≤ l.length) (p2 : l.length ≤ p) (hl : l.length ≤ 1000000000) (l1 : lim ≤ 4611686018427387904) (hr : 0 < rest p lim) :
    Calls Tryd.prog 141 #[.pointer (some ⟨g, 0, none⟩)] w (fun e w' => Stops l.length 1 e ∧ Rd g w w') := by
  have HR := hid (fun W (hb : Below w.heap.size w W) => rest_walk g (.slice A l.length c) p lim W (h.below hb) p0 (by omega) l1)
  have HN := hid (fun W => need_yes p W)
  obtain ⟨c0, c1, c2, f1, f2⟩ := h
  go_enter Tryd.func141, Tryd.ntmps141
  go_upto_region 1 with (fail)
  have S0 : w.cell? ⟨g, 0, none⟩ = some (.slice A l.length c) ∧ w.cell? ⟨g, 1, none⟩ = some (.int .i64 p) ∧ w.cell? ⟨g, 2, none⟩ = some (.int .i64 lim) ∧ Below w.heap.size w w ∧ w.heap.size ≤ w.heap.size := ⟨c0, c1, c2, Below.refl _ _, Nat.le_refl _⟩
  clear c0 c1 c2 f1 f2
  refine wp_region_noPanic ?_
  refine wp_region_held_drew (S := (fun W => W.cell? ⟨g, 0, none⟩ = some (.slice A l.length c) ∧ W.cell? ⟨g, 1, none⟩ = some (.int .i64 p) ∧ W.cell? ⟨g, 2, none⟩ = some (.int .i64 lim) ∧ Below w.heap.size w W ∧ w.heap.size ≤ W.heap.size)) (by kernel_rfl) ?hSa (fun hHeld => ?goa)
  case hSa => exact keepN S0 (Below.drew (Below.refl _ _))
  refine wpAnyH_take (i := 0) (oi := { dst := some 3, op := Go.Op.move (Go.Operand.tmp 0), type := 81, pos := "cursor.go:77", after := #[], guard := none }) (v := ?_) rfl (by kernel_rfl) (by kernel_rfl) (by kernel_rfl) (fun _ _ _ h => h) (Or.inl ⟨by rfl, ?hy0a⟩) (by assumption) ?rest0a
  case hy0a => (intro w hSw; (try dsimp only at hSw); go_simp; first | (with_reducible rfl) | (rw [if_neg (by omega)]) | skip)
  simp only [Act.put, List.setIfInBounds_toArray, List.set_cons_zero, List.set_cons_succ]
  refine wpAnyH_take (i := 3) (oi := { dst := some 6, op := Go.Op.move (Go.Operand.tmp 0), type := 81, pos := "cursor.go:77", after := #[], guard := none }) (v := ?_) rfl (by kernel_rfl) (by kernel_rfl) (by kernel_rfl) (fun _ _ _ h => h) (Or.inl ⟨by rfl, ?hy3a⟩) (by assumption) ?rest3a
  case hy3a => (intro w hSw; (try dsimp only at hSw); go_simp; first | (with_reducible rfl) | (rw [if_neg (by omega)]) | skip)
  simp only [Act.put, List.setIfInBounds_toArray, List.set_cons_zero, List.set_cons_succ]
  refine wpAnyH_take (i := 4) (oi := { dst := some 7, op := Go.Op.nilCheck (Go.Operand.tmp 6), type := 0, pos := "cursor.go:77", after := #[{ on := 3, ground := Go.Ground.data }], guard := none }) (v := ?_) rfl (by kernel_rfl) (by kernel_rfl) (by kernel_rfl) (fun _ _ _ h => h) (Or.inl ⟨by rfl, ?hy4a⟩) (by assumption) ?rest4a
  case hy4a => (intro w hSw; (try dsimp only at hSw); go_simp; first | (with_reducible rfl) | (rw [if_neg (by omega)]) | skip)
  simp only [Act.put, List.setIfInBounds_toArray, List.set_cons_zero, List.set_cons_succ]
  refine wpAnyH_take (i := 5) (oi := { dst := some 8, op := Go.Op.fieldAddr 136 (Go.Operand.tmp 7) 1, type := 0, pos := "cursor.go:77", after := #[{ on := 4, ground := Go.Ground.data }], guard := none }) (v := ?_) rfl (by kernel_rfl) (by kernel_rfl) (by kernel_rfl) (fun _ _ _ h => h) (Or.inl ⟨by rfl, ?hy5a⟩) (by assumption) ?rest5a
  case hy5a => (intro w hSw; (try dsimp only at hSw); go_simp; first | (with_reducible rfl) | (rw [if_neg (by omega)]) | skip)
  simp only [Act.put, List.setIfInBounds_toArray, List.set_cons_zero, List.set_cons_succ]
  refine wpAnyH_take (i := 6) (oi := { dst := some 9, op := Go.Op.load 3 (Go.Operand.tmp 8), type := 3, pos := "cursor.go:77", after := #[{ on := 5, ground := Go.Ground.data }], guard := none }) (v := ?_) rfl (by kernel_rfl) (by kernel_rfl) (by kernel_rfl) (fun _ _ _ h => h) (Or.inl ⟨by rfl, ?hy6a⟩) (by assumption) ?rest6a
  case hy6a => (intro w hSw; (try dsimp only at hSw); go_simp; first | (with_reducible rfl) | (rw [if_neg (by omega)]) | skip)
  simp only [Act.put, List.setIfInBounds_toArray, List.set_cons_zero, List.set_cons_succ]
  refine wpAnyH_ready (rs := [1]) (by kernel_rfl) (by simp) ?_
  refine AllReadyH.cons (o := { dst := some 4, op := Go.Op.call { callee := Go.Callee.value (Go.Operand.func 68), args := #[Go.Operand.tmp 3], argTypes := #[81] }, type := 3, pos := "cursor.go:77", after := #[{ on := 0, ground := Go.Ground.data }], guard := none }) rfl (fun K hK => ?_) AllReadyH.nil
  go_simp
  go_at_call 68; (with_reducible refine (HR.out _ hHeld.2.2.2.1).mono ?_); rintro e w1 ⟨rfl, n1, rfl⟩
  refine hK.out _ _ ?_ (fun hHeld => ?_)
  · (try dsimp only); first | exact keepN hHeld (below_drewN _ _) | exact keepN S0 (below_drewN w _)
  clear hK K
  try simp only [Act.put, List.setIfInBounds_toArray, List.set_cons_zero, List.set_cons_succ]
  refine wpAnyH_take (i := 2) (oi := { dst := some 5, op := Go.Op.binOp Go.BinOp.gtr 3 (Go.Operand.tmp 4) (Go.Operand.const (Go.Value.int Go.IntKind.i64 0)) 3, type := 4, pos := "cursor.go:77", after := #[{ on := 1, ground := Go.Ground.data }], guard := none }) (v := ?_) rfl (by kernel_rfl) (by kernel_rfl) (by kernel_rfl) (fun _ _ _ h => h) (Or.inl ⟨by rfl, ?hy2a⟩) (by assumption) ?rest2a
  case hy2a => (intro w hSw; (try dsimp only at hSw); go_simp; first | (with_reducible rfl) | (rw [if_neg (by omega)]) | skip)
  simp only [Act.put, List.setIfInBounds_toArray, List.set_cons_zero, List.set_cons_succ]
  refine wpAnyH_ready (rs := [7]) (by kernel_rfl) (by simp) ?_
  refine AllReadyH.cons (o := { dst := some 10, op := Go.Op.call { callee := Go.Callee.value (Go.Operand.func 92), args := #[Go.Operand.tmp 5, Go.Operand.tmp 9], argTypes := #[4, 3] }, type := 0, pos := "cursor.go:77", after := #[{ on := 2, ground := Go.Ground.data }, { on := 6, ground := Go.Ground.data }, { on := 1, ground := Go.Ground.chain }], guard := none }) rfl (fun K hK => ?_) AllReadyH.nil
  go_simp
  go_at_call 92; (with_reducible refine (HN.out _).mono ?_); rintro e w1 ⟨rfl, rfl⟩
  refine hK.out _ _ ?_ (fun hHeld => ?_)
  · (try dsimp only); first | exact keepN hHeld (below_drewN _ _) | exact keepN S0 (below_drewN w _)
  clear hK K
  try simp only [Act.put, List.setIfInBounds_toArray, List.set_cons_zero, List.set_cons_succ]
  refine wpAnyH_done (by kernel_rfl) ?_ _
  refine NoPanic.normal ?_
  obtain ⟨c0, c1, c2, -⟩ := S0
  go_wp2_with fail
  go_quiet (fail)
  go_wp2_with fail
  exact ⟨rfl, rfl, grown_of_below (below_drewN w _) _⟩

theorem add_block (a : Addr) (k : Nat) : (a.add k).block = a.block := by unfold Addr.add; split <;> rfl
theorem cell_lt' {w : World} {a : Addr} {v : Value} (h : w.cell? a = some v) : a.block < w.heap.size := by
  rcases Nat.lt_or_ge a.block w.heap.size with q | q
  · exact q
  · simp [World.cell?, Array.getElem?_eq_none q] at h
theorem grown_setCell (w : World) (g i : Nat) (v : Value) : w.grownBy (w.setCell ⟨g, i, none⟩ v) (some g) :=
  ⟨rfl, rfl, rfl, by simp, fun k _ hne => heap_setCell_other w ⟨g, i, none⟩ k v (fun e => hne (congrArg some e))⟩
theorem moved {g : Nat} {sl : Value} {p lim : Int} {w : World} (h : Cu g sl p lim w) (a b : Nat) (p' : Int) :
    Cu g sl p' lim (((w.drewN a).setCell ⟨g, 1, none⟩ (.int .i64 p')).drewN b) ∧ Rd g w (((w.drewN a).setCell ⟨g, 1, none⟩ (.int .i64 p')).drewN b) := by
  obtain ⟨c0, c1, c2, f1, f2⟩ := h
  have d : ∀ i, i ≠ 1 → (w.setCell ⟨g, 1, none⟩ (.int .i64 p')).cell? ⟨g, i, none⟩ = w.cell? ⟨g, i, none⟩ := by
    intro i hi; apply World.cell?_setCell_other; intro e; injection e with _ e _; exact hi e.symm
  refine ⟨⟨(d 0 (by decide)).trans c0, (by apply World.cell?_setCell_same; exact c1), (d 2 (by decide)).trans c2, ?_, ?_⟩, ?_⟩
  · exact (World.frozen?_setCell _ _ _ _).trans f1
  · exact (World.frozen?_setCell _ _ _ _).trans f2
  · exact (grown_of_below (below_drewN w a) _).trans ((grown_setCell _ g 1 _).trans (grown_of_below (below_drewN _ b) _))

set_option maxHeartbeats 4000000 in
theorem next_ok (g : Nat) (ad : Addr) (c : Nat) (n : Nat) (x : Int) (p lim : Int) (w : World) (h : Cu g (.slice (some ad) n c) p lim w) (p0 : 0 ≤ p) (p1 : p < n) (hl : n ≤ 1000000000) (hne : ad.block ≠ g) (hx : w.cell? (ad.add p.toNat) = some (.int .u8 x)) (l1 : lim ≤ 4611686018427387904) (hr : 0 < rest p lim) :
    Calls Tryd.prog 141 #[.pointer (some ⟨g, 0, none⟩)] w (fun e w' => e = .returned (.int .u8 x) ∧ Cu g (.slice (some ad) n c) (p + 1) lim w' ∧ Rd g w w') := by
  have HR := hid (fun W (hb : Below w.heap.size w W) => rest_walk g (.slice (some ad) n c) p lim W (h.below hb) p0 (by omega) l1)
  have HN := hid (fun W => need_yes p W)
  have HM := hid (fun (a b : Nat) => moved h a b (p + 1))
  obtain ⟨c0, c1, c2, f1, f2⟩ := h
  go_enter Tryd.func141, Tryd.ntmps141
  go_upto_region 1 with (fail)
  have S0 : w.cell? ⟨g, 0, none⟩ = some (.slice (some ad) n c) ∧ w.cell? ⟨g, 1, none⟩ = some (.int .i64 p) ∧ w.cell? ⟨g, 2, none⟩ = some (.int .i64 lim) ∧ Below w.heap.size w w ∧ w.heap.size ≤ w.heap.size := ⟨c0, c1, c2, Below.refl _ _, Nat.le_refl _⟩
  clear c0 c1 c2
  refine wp_region_noPanic ?_
  refine wp_region_held_drew (S := (fun W => W.cell? ⟨g, 0, none⟩ = some (.slice (some ad) n c) ∧ W.cell? ⟨g, 1, none⟩ = some (.int .i64 p) ∧ W.cell? ⟨g, 2, none⟩ = some (.int .i64 lim) ∧ Below w.heap.size w W ∧ w.heap.size ≤ W.heap.size)) (by kernel_rfl) ?hSa (fun hHeld => ?goa)
  case hSa => exact keepN S0 (Below.drew (Below.refl _ _))
  refine wpAnyH_take (i := 0) (oi := { dst := some 3, op := Go.Op.move (Go.Operand.tmp 0), type := 81, pos := "cursor.go:77", after := #[], guard := none }) (v := ?_) rfl (by kernel_rfl) (by kernel_rfl) (by kernel_rfl) (fun _ _ _ h => h) (Or.inl ⟨by rfl, ?hy0a⟩) (by assumption) ?rest0a
  case hy0a => (intro w hSw; (try dsimp only at hSw); go_simp; first | (with_reducible rfl) | (rw [if_neg (by omega)]) | skip)
  simp only [Act.put, List.setIfInBounds_toArray, List.set_cons_zero, List.set_cons_succ]
  refine wpAnyH_take (i := 3) (oi := { dst := some 6, op := Go.Op.move (Go.Operand.tmp 0), type := 81, pos := "cursor.go:77", after := #[], guard := none }) (v := ?_) rfl (by kernel_rfl) (by kernel_rfl) (by kernel_rfl) (fun _ _ _ h => h) (Or.inl ⟨by rfl, ?hy3a⟩) (by assumption) ?rest3a
  case hy3a => (intro w hSw; (try dsimp only at hSw); go_simp; first | (with_reducible rfl) | (rw [if_neg (by omega)]) | skip)
  simp only [Act.put, List.setIfInBounds_toArray, List.set_cons_zero, List.set_cons_succ]
  refine wpAnyH_take (i := 4) (oi := { dst := some 7, op := Go.Op.nilCheck (Go.Operand.tmp 6), type := 0, pos := "cursor.go:77", after := #[{ on := 3, ground := Go.Ground.data }], guard := none }) (v := ?_) rfl (by kernel_rfl) (by kernel_rfl) (by kernel_rfl) (fun _ _ _ h => h) (Or.inl ⟨by rfl, ?hy4a⟩) (by assumption) ?rest4a
  case hy4a => (intro w hSw; (try dsimp only at hSw); go_simp; first | (with_reducible rfl) | (rw [if_neg (by omega)]) | skip)
  simp only [Act.put, List.setIfInBounds_toArray, List.set_cons_zero, List.set_cons_succ]
  refine wpAnyH_take (i := 5) (oi := { dst := some 8, op := Go.Op.fieldAddr 136 (Go.Operand.tmp 7) 1, type := 0, pos := "cursor.go:77", after := #[{ on := 4, ground := Go.Ground.data }], guard := none }) (v := ?_) rfl (by kernel_rfl) (by kernel_rfl) (by kernel_rfl) (fun _ _ _ h => h) (Or.inl ⟨by rfl, ?hy5a⟩) (by assumption) ?rest5a
  case hy5a => (intro w hSw; (try dsimp only at hSw); go_simp; first | (with_reducible rfl) | (rw [if_neg (by omega)]) | skip)
  simp only [Act.put, List.setIfInBounds_toArray, List.set_cons_zero, List.set_cons_succ]
  refine wpAnyH_take (i := 6) (oi := { dst := some 9, op := Go.Op.load 3 (Go.Operand.tmp 8), type := 3, pos := "cursor.go:77", after := #[{ on := 5, ground := Go.Ground.data }], guard := none }) (v := ?_) rfl (by kernel_rfl) (by kernel_rfl) (by kernel_rfl) (fun _ _ _ h => h) (Or.inl ⟨by rfl, ?hy6a⟩) (by assumption) ?rest6a
  case hy6a => (intro w hSw; (try dsimp only at hSw); go_simp; first | (with_reducible rfl) | (rw [if_neg (by omega)]) | skip)
  simp only [Act.put, List.setIfInBounds_toArray, List.set_cons_zero, List.set_cons_succ]
  refine wpAnyH_ready (rs := [1]) (by kernel_rfl) (by simp) ?_
  refine AllReadyH.cons (o := { dst := some 4, op := Go.Op.call { callee := Go.Callee.value (Go.Operand.func 68), args := #[Go.Operand.tmp 3], argTypes := #[81] }, type := 3, pos := "cursor.go:77", after := #[{ on := 0, ground := Go.Ground.data }], guard := none }) rfl (fun K hK => ?_) AllReadyH.nil
  go_simp
  go_at_call 68; (with_reducible refine (HR.out _ hHeld.2.2.2.1).mono ?_); rintro e w1 ⟨rfl, n1, rfl⟩
  refine hK.out _ _ ?_ (fun hHeld => ?_)
  · (try dsimp only); first | exact keepN hHeld (below_drewN _ _) | exact keepN S0 (below_drewN w _)
  clear hK K
  try simp only [Act.put, List.setIfInBounds_toArray, List.set_cons_zero, List.set_cons_succ]
  refine wpAnyH_take (i := 2) (oi := { dst := some 5, op := Go.Op.binOp Go.BinOp.gtr 3 (Go.Operand.tmp 4) (Go.Operand.const (Go.Value.int Go.IntKind.i64 0)) 3, type := 4, pos := "cursor.go:77", after := #[{ on := 1, ground := Go.Ground.data }], guard := none }) (v := ?_) rfl (by kernel_rfl) (by kernel_rfl) (by kernel_rfl) (fun _ _ _ h => h) (Or.inl ⟨by rfl, ?hy2a⟩) (by assumption) ?rest2a
  case hy2a => (intro w hSw; (try dsimp only at hSw); go_simp; first | (with_reducible rfl) | (rw [if_neg (by omega)]) | skip)
  simp only [Act.put, List.setIfInBounds_toArray, List.set_cons_zero, List.set_cons_succ]
  refine wpAnyH_ready (rs := [7]) (by kernel_rfl) (by simp) ?_
  refine AllReadyH.cons (o := { dst := some 10, op := Go.Op.call { callee := Go.Callee.value (Go.Operand.func 92), args := #[Go.Operand.tmp 5, Go.Operand.tmp 9], argTypes := #[4, 3] }, type := 0, pos := "cursor.go:77", after := #[{ on := 2, ground := Go.Ground.data }, { on := 6, ground := Go.Ground.data }, { on := 1, ground := Go.Ground.chain }], guard := none }) rfl (fun K hK => ?_) AllReadyH.nil
  go_simp
  go_at_call 92; (with_reducible refine (HN.out _).mono ?_); rintro e w1 ⟨rfl, rfl⟩
  refine hK.out _ _ ?_ (fun hHeld => ?_)
  · (try dsimp only); first | exact keepN hHeld (below_drewN _ _) | exact keepN S0 (below_drewN w _)
  clear hK K
  try simp only [Act.put, List.setIfInBounds_toArray, List.set_cons_zero, List.set_cons_succ]
  refine wpAnyH_done (by kernel_rfl) ?_ _
  refine NoPanic.normal ?_
  obtain ⟨c0, c1, c2, -⟩ := S0
  go_wp2_with fail
  go_quiet (fail)
  go_wp2_with fail
  have hwp : IntKind.i64.wrap p = p := by rw [IntKind.wrap_i64]; omega
  have hxs : ((w.drewN (1 + n1 + nq)).setCell ⟨g, 1, none⟩ (.int .i64 (p + 1))).cell? (ad.add p.toNat) = some (.int .u8 x) := (World.cell?_setCell_far _ _ _ _ (fun q => hne ((add_block ad _).symm.trans q.symm))).trans hx
  go_quiet (first | (simp only [hxs]; go_simp; done) | (simp only [hwp, if_pos (And.intro p0 p1)]; first | done | exact ⟨rfl, rfl⟩ | (go_simp; done)) | (simp [hwp, p0, p1]; done))
  go_wp2_with fail
  go_ret
  exact ⟨rfl, HM.out _ _⟩
end Go.Proofs.YtiohiiekaofkbaaDoor

/- The cursor with its bytes; the next byte; a byte that may be. -/
namespace Go.Proofs.YtiohiiekaofkbaaDoor
set_option linter.unusedVariables false
set_option linter.unusedSimpArgs false
open Go.RowKit

/-- a cursor and its bytes -/
structure CB (g : Nat) (A : Option Addr) (c : Nat) (l : List Int) (p lim : Int) (w : World) : Prop where
  cu : Cu g (.slice A l.length c) p lim w
  at_ : BytesAt A l w
  ne : ∀ ad, A = some ad → ad.block ≠ g
  p0 : 0 ≤ p
  p1 : p ≤ l.length
  hl : l.length ≤ 1000000000
  l2 : lim ≤ 1099511627776
  b8 : ∀ x ∈ l, 0 ≤ x ∧ x < 256
theorem CB.l1 {g : Nat} {A : Option Addr} {c : Nat} {l : List Int} {p lim : Int} {w : World} (h : CB g A c l p lim w) : lim ≤ 4611686018427387904 := by have := h.l2; omega
theorem Rd.trans {g : Nat} {a b c : World} (h : Rd g a b) (k : Rd g b c) : Rd g a c := World.grownBy.trans h k
theorem BytesAt.rd {A : Option Addr} {l : List Int} {g : Nat} {w w' : World} (h : BytesAt A l w) (ne : ∀ ad, A = some ad → ad.block ≠ g) (hg : Rd g w w') : BytesAt A l w' := by
  rcases h with h | ⟨ad, rfl, h⟩
  · exact .inl h
  · refine .inr ⟨ad, rfl, fun j x hj => ?_⟩
    have e := h j x hj
    rw [World.cell?_of_block (w := w) (w' := w') (hg.block _ (cell_lt' e) (fun q => ne ad rfl ((add_block ad j).symm.trans (Option.some.inj q))))]
    exact e
theorem CB.rd {g : Nat} {A : Option Addr} {c : Nat} {l : List Int} {p lim p' lim' : Int} {w w' : World} (h : CB g A c l p lim w) (hg : Rd g w w') (hc : Cu g (.slice A l.length c) p' lim' w') (q0 : 0 ≤ p') (q1 : p' ≤ l.length) (q2 : lim' ≤ 1099511627776) : CB g A c l p' lim' w' :=
  ⟨hc, h.at_.rd h.ne hg, h.ne, q0, q1, h.hl, q2, h.b8⟩
theorem CB.below {g : Nat} {A : Option Addr} {c : Nat} {l : List Int} {p lim : Int} {w w' : World} (h : CB g A c l p lim w) (hb : Below w.heap.size w w') : CB g A c l p lim w' :=
  h.rd (grown_of_below hb _) (h.cu.below hb) h.p0 h.p1 h.l2
/-- what a reader does: a value and a new place, or where it gives up and with what -/
abbrev Res := Except (Int × Int) (Value × Int)
def Post (g : Nat) (A : Option Addr) (c : Nat) (l : List Int) (lim : Int) (w : World) (r : Res) (e : Ending) (w' : World) : Prop :=
  match r with
  | .ok (v, p') => e = .returned v ∧ CB g A c l p' lim w' ∧ Rd g w w'
  | .error s => Stops s.1 s.2 e ∧ Rd g w w'
def nextV (l : List Int) (p lim : Int) : Res := match nextR l p lim with | .ok x => .ok (.int .u8 x, p + 1) | .error s => .error s

theorem next_walk (g : Nat) (A : Option Addr) (c : Nat) (l : List Int) (p lim : Int) (w : World) (h : CB g A c l p lim w) :
    Calls Tryd.prog 141 #[.pointer (some ⟨g, 0, none⟩)] w (Post g A c l lim w (nextV l p lim)) := by
  have p0 := h.p0
  have p1 := h.p1
  have hl := h.hl
  by_cases hr : rest p lim ≤ 0
  · have e : nextV l p lim = .error (p, 2) := by rw [nextV, nextR, if_pos hr]
    rw [e]
    exact (next_lim g A c l p lim w h.cu p0 p1 hl h.l1 hr).mono (fun e w' q => q)
  · by_cases hp : p < l.length
    · have hx : l[p.toNat]? = some l[p.toNat] := List.getElem?_eq_getElem (by omega)
      have e : nextV l p lim = .ok (.int .u8 l[p.toNat], p + 1) := by rw [nextV, nextR, if_neg hr, hx]
      rw [e]
      rcases h.at_ with q | ⟨ad, rfl, q⟩
      · rw [q] at hp; simp at hp; omega
      · refine (next_ok g ad c l.length l[p.toNat] p lim w h.cu p0 hp hl (h.ne ad rfl) (q _ _ hx) h.l1 (by omega)).mono (fun e w' k => ?_)
        exact ⟨k.1, h.rd k.2.2 k.2.1 (by omega) (by omega) h.l2, k.2.2⟩
    · have e : nextV l p lim = .error (l.length, 1) := by rw [nextV, nextR, if_neg hr, List.getElem?_eq_none (by omega)]
      rw [e]
      exact (next_end g A c l p lim w h.cu p0 p1 (by omega) hl h.l1 (by omega)).mono (fun e w' q => q)

theorem rest_b {g : Nat} {A : Option Addr} {c : Nat} {l : List Int} {p lim : Int} {w : World} (h : CB g A c l p lim w) (W : World) (hb : Below w.heap.size w W) :
    Calls Tryd.prog 68 #[.pointer (some ⟨g, 0, none⟩)] W (fun e w' => e = .returned (.int .i64 (rest p lim)) ∧ Below W.heap.size W w') :=
  (rest_walk g (.slice A l.length c) p lim W (h.cu.below hb) h.p0 (by have := h.p1; have := h.hl; omega) h.l1).mono (fun e w' ⟨q, n, r⟩ => ⟨q, r ▸ below_drewN W n⟩)
/-- a function with a body is entered -/
abbrev Enters (k : Nat) : Prop := ∀ (args : Array Value) (w : World), (callFunc k args).run Tryd.prog w = .ok (.enter k args) w
theorem enters {f : FuncId} {fn : Func} {c : Code} (hf : Tryd.prog.funcs[f]? = some fn) (hname : (fn.name == "runtime.NumGoroutine") = false) (hb : fn.body = some c) : Enters f := by
  intro args w
  have h1 : fn.name ≠ "runtime.NumGoroutine" := by simpa using hname
  simp [callFunc, hf, h1, hb]
/-- what is asked of a byte and the rest behind it: a function value that keeps what is older -/
abbrev May (k : Nat) (caps : Array Value) (w : World) (x : Int) (r : Int) (is : Bool) : Prop :=
  ∀ W, w.heap.size ≤ W.heap.size → Below w.heap.size w W → Calls Tryd.prog k (#[.int .u8 x, .int .i64 r] ++ caps) W (fun e w' => e = .returned (.bool is) ∧ Below W.heap.size W w')

set_option maxHeartbeats 4000000 in
theorem byte_yes (g : Nat) (A : Option Addr) (c : Nat) (l : List Int) (p lim : Int) (w : World) (k : Nat) (caps : Array Value) (hE : Enters k) (h : CB g A c l p lim w) (x : Int) (hx : nextR l p lim = .ok x)
    (hm : ∀ w1, Rd g w w1 → May k caps w1 x (rest (p + 1) lim) true) :
    Calls Tryd.prog 94 #[.pointer (some ⟨g, 0, none⟩), .func (.func k) #[] caps] w (Post g A c l lim w (.ok (.int .u8 x, p + 1))) := by
  have HN := hid (next_walk g A c l p lim w h)
  have hv : nextV l p lim = .ok (.int .u8 x, p + 1) := by rw [nextV, hx]
  rw [hv] at HN
  have HM := hid hm
  have HE := hid hE
  clear hE
  clear hm hx hv
  go_enter Tryd.func94, Tryd.ntmps94
  go_upto_region 2 with (first | (go_at_call 141; refine HN.out.mono ?_; rintro e w1 ⟨rfl, HC, HG⟩))
  have HR := hid (rest_b HC)
  have p0 := h.p0
  have p1 := h.p1
  have hl := h.hl
  have HY := hid (fun W => need_yes p W)
  have HMM := hid (HM.out w1 HG)
  have hwp : IntKind.i64.wrap p = p := by rw [IntKind.wrap_i64]; omega
  obtain ⟨c0, c1, c2, f1, f2⟩ := HC.cu
  have S0 : w1.cell? ⟨g, 0, none⟩ = some (.slice A l.length c) ∧ w1.cell? ⟨g, 1, none⟩ = some (.int .i64 (p + 1)) ∧ w1.cell? ⟨g, 2, none⟩ = some (.int .i64 lim) ∧ Below w1.heap.size w1 w1 ∧ w1.heap.size ≤ w1.heap.size := ⟨c0, c1, c2, Below.refl _ _, Nat.le_refl _⟩
  clear c0 c1 c2
  refine wp_region_noPanic ?_
  refine wp_region_held_drew (S := (fun W => W.cell? ⟨g, 0, none⟩ = some (.slice A l.length c) ∧ W.cell? ⟨g, 1, none⟩ = some (.int .i64 (p + 1)) ∧ W.cell? ⟨g, 2, none⟩ = some (.int .i64 lim) ∧ Below w1.heap.size w1 W ∧ w1.heap.size ≤ W.heap.size)) (by kernel_rfl) ?hSa (fun hHeld => ?goa)
  case hSa => exact keepN S0 (Below.drew (Below.refl _ _))
  refine wpAnyH_take (i := 0) (oi := { dst := some 8, op := Go.Op.move (Go.Operand.tmp 1), type := 144, pos := "cursor.go:88", after := #[], guard := none }) (v := ?_) rfl (by kernel_rfl) (by kernel_rfl) (by kernel_rfl) (fun _ _ _ h => h) (Or.inl ⟨by rfl, ?hy0a⟩) (by assumption) ?rest0a
  case hy0a => (intro w hSw; (try dsimp only at hSw); go_simp; first | (with_reducible rfl) | (rw [if_neg (by omega)]) | skip)
  simp only [Act.put, List.setIfInBounds_toArray, List.set_cons_zero, List.set_cons_succ]
  refine wpAnyH_take (i := 1) (oi := { dst := some 9, op := Go.Op.move (Go.Operand.tmp 5), type := 5, pos := "cursor.go:88", after := #[], guard := none }) (v := ?_) rfl (by kernel_rfl) (by kernel_rfl) (by kernel_rfl) (fun _ _ _ h => h) (Or.inl ⟨by rfl, ?hy1a⟩) (by assumption) ?rest1a
  case hy1a => (intro w hSw; (try dsimp only at hSw); go_simp; first | (with_reducible rfl) | (rw [if_neg (by omega)]) | skip)
  simp only [Act.put, List.setIfInBounds_toArray, List.set_cons_zero, List.set_cons_succ]
  refine wpAnyH_take (i := 2) (oi := { dst := some 10, op := Go.Op.move (Go.Operand.tmp 0), type := 81, pos := "cursor.go:88", after := #[], guard := none }) (v := ?_) rfl (by kernel_rfl) (by kernel_rfl) (by kernel_rfl) (fun _ _ _ h => h) (Or.inl ⟨by rfl, ?hy2a⟩) (by assumption) ?rest2a
  case hy2a => (intro w hSw; (try dsimp only at hSw); go_simp; first | (with_reducible rfl) | (rw [if_neg (by omega)]) | skip)
  simp only [Act.put, List.setIfInBounds_toArray, List.set_cons_zero, List.set_cons_succ]
  refine wpAnyH_take (i := 5) (oi := { dst := some 13, op := Go.Op.move (Go.Operand.tmp 0), type := 81, pos := "cursor.go:88", after := #[], guard := none }) (v := ?_) rfl (by kernel_rfl) (by kernel_rfl) (by kernel_rfl) (fun _ _ _ h => h) (Or.inl ⟨by rfl, ?hy5a⟩) (by assumption) ?rest5a
  case hy5a => (intro w hSw; (try dsimp only at hSw); go_simp; first | (with_reducible rfl) | (rw [if_neg (by omega)]) | skip)
  simp only [Act.put, List.setIfInBounds_toArray, List.set_cons_zero, List.set_cons_succ]
  refine wpAnyH_take (i := 6) (oi := { dst := some 14, op := Go.Op.nilCheck (Go.Operand.tmp 13), type := 0, pos := "cursor.go:88", after := #[{ on := 5, ground := Go.Ground.data }], guard := none }) (v := ?_) rfl (by kernel_rfl) (by kernel_rfl) (by kernel_rfl) (fun _ _ _ h => h) (Or.inl ⟨by rfl, ?hy6a⟩) (by assumption) ?rest6a
  case hy6a => (intro w hSw; (try dsimp only at hSw); go_simp; first | (with_reducible rfl) | (rw [if_neg (by omega)]) | skip)
  simp only [Act.put, List.setIfInBounds_toArray, List.set_cons_zero, List.set_cons_succ]
  refine wpAnyH_take (i := 7) (oi := { dst := some 15, op := Go.Op.fieldAddr 136 (Go.Operand.tmp 14) 1, type := 0, pos := "cursor.go:88", after := #[{ on := 6, ground := Go.Ground.data }], guard := none }) (v := ?_) rfl (by kernel_rfl) (by kernel_rfl) (by kernel_rfl) (fun _ _ _ h => h) (Or.inl ⟨by rfl, ?hy7a⟩) (by assumption) ?rest7a
  case hy7a => (intro w hSw; (try dsimp only at hSw); go_simp; first | (with_reducible rfl) | (rw [if_neg (by omega)]) | skip)
  simp only [Act.put, List.setIfInBounds_toArray, List.set_cons_zero, List.set_cons_succ]
  refine wpAnyH_take (i := 8) (oi := { dst := some 16, op := Go.Op.load 3 (Go.Operand.tmp 15), type := 3, pos := "cursor.go:88", after := #[{ on := 7, ground := Go.Ground.data }], guard := none }) (v := ?_) rfl (by kernel_rfl) (by kernel_rfl) (by kernel_rfl) (fun _ _ _ h => h) (Or.inl ⟨by rfl, ?hy8a⟩) (by assumption) ?rest8a
  case hy8a => (intro w hSw; (try dsimp only at hSw); go_simp; first | (with_reducible rfl) | (rw [if_neg (by omega)]) | skip)
  simp only [Act.put, List.setIfInBounds_toArray, List.set_cons_zero, List.set_cons_succ]
  refine wpAnyH_take (i := 9) (oi := { dst := some 17, op := Go.Op.binOp Go.BinOp.sub 3 (Go.Operand.tmp 16) (Go.Operand.const (Go.Value.int Go.IntKind.i64 1)) 3, type := 3, pos := "cursor.go:88", after := #[{ on := 8, ground := Go.Ground.data }], guard := none }) (v := ?_) rfl (by kernel_rfl) (by kernel_rfl) (by kernel_rfl) (fun _ _ _ h => h) (Or.inl ⟨by rfl, ?hy9a⟩) (by assumption) ?rest9a
  case hy9a => (intro w hSw; (try dsimp only at hSw); go_simp; first | (with_reducible rfl) | (rw [if_neg (by omega)]) | skip)
  simp only [Act.put, List.setIfInBounds_toArray, List.set_cons_zero, List.set_cons_succ]
  refine wpAnyH_ready (rs := [3]) (by kernel_rfl) (by simp) ?_
  refine AllReadyH.cons (o := { dst := some 11, op := Go.Op.call { callee := Go.Callee.value (Go.Operand.func 68), args := #[Go.Operand.tmp 10], argTypes := #[81] }, type := 3, pos := "cursor.go:88", after := #[{ on := 2, ground := Go.Ground.data }], guard := none }) rfl (fun K hK => ?_) AllReadyH.nil
  go_simp
  go_at_call 68; (with_reducible refine (HR.out _ hHeld.2.2.2.1).mono ?_); rintro e w2 ⟨rfl, hb2⟩
  refine hK.out _ _ ?_ (fun hHeld => ?_)
  · (try dsimp only); first | exact hHeld | exact keepN hHeld (by assumption) | exact keepN hHeld (below_drewN _ _) | exact keepN S0 (below_drewN w1 _)
  clear hK K
  try simp only [Act.put, List.setIfInBounds_toArray, List.set_cons_zero, List.set_cons_succ]
  refine wpAnyH_ready (rs := [4]) (by kernel_rfl) (by simp) ?_
  refine AllReadyH.cons (o := { dst := some 12, op := Go.Op.call { callee := Go.Callee.value (Go.Operand.tmp 8), args := #[Go.Operand.tmp 9, Go.Operand.tmp 11], argTypes := #[5, 3] }, type := 4, pos := "cursor.go:88", after := #[{ on := 0, ground := Go.Ground.data }, { on := 1, ground := Go.Ground.data }, { on := 3, ground := Go.Ground.data }, { on := 3, ground := Go.Ground.chain }], guard := none }) rfl (fun K hK => ?_) AllReadyH.nil
  go_simp
  rw [HE.out]; go_simp; (with_reducible refine (HMM.out _ hHeld.2.2.2.2 hHeld.2.2.2.1).mono ?_); rintro e w4 ⟨rfl, hb4⟩
  refine hK.out _ _ ?_ (fun hHeld => ?_)
  · (try dsimp only); first | exact hHeld | exact keepN hHeld (by assumption) | exact keepN hHeld (below_drewN _ _) | exact keepN S0 (below_drewN w1 _)
  clear hK K
  try simp only [Act.put, List.setIfInBounds_toArray, List.set_cons_zero, List.set_cons_succ]
  refine wpAnyH_ready (rs := [10]) (by kernel_rfl) (by simp) ?_
  refine AllReadyH.cons (o := { dst := some 18, op := Go.Op.call { callee := Go.Callee.value (Go.Operand.func 92), args := #[Go.Operand.tmp 12, Go.Operand.tmp 17], argTypes := #[4, 3] }, type := 0, pos := "cursor.go:88", after := #[{ on := 4, ground := Go.Ground.data }, { on := 9, ground := Go.Ground.data }, { on := 4, ground := Go.Ground.chain }], guard := none }) rfl (fun K hK => ?_) AllReadyH.nil
  go_simp
  (try rw [hwp]); go_at_call 92; (with_reducible refine (HY.out _).mono ?_); rintro e w3 ⟨rfl, rfl⟩
  refine hK.out _ _ ?_ (fun hHeld => ?_)
  · (try dsimp only); first | exact hHeld | exact keepN hHeld (by assumption) | exact keepN hHeld (below_drewN _ _) | exact keepN S0 (below_drewN w1 _)
  clear hK K
  try simp only [Act.put, List.setIfInBounds_toArray, List.set_cons_zero, List.set_cons_succ]
  refine wpAnyH_done (by kernel_rfl) ?_ _
  refine NoPanic.normal ?_
  go_wp2_with fail
  go_ret
  exact ⟨rfl, HC.below hHeld.2.2.2.1, HG.trans (grown_of_below hHeld.2.2.2.1 _)⟩
set_option maxHeartbeats 4000000 in
theorem byte_not (g : Nat) (A : Option Addr) (c : Nat) (l : List Int) (p lim : Int) (w : World) (k : Nat) (caps : Array Value) (hE : Enters k) (h : CB g A c l p lim w) (x : Int) (hx : nextR l p lim = .ok x)
    (hm : ∀ w1, Rd g w w1 → May k caps w1 x (rest (p + 1) lim) false) :
    Calls Tryd.prog 94 #[.pointer (some ⟨g, 0, none⟩), .func (.func k) #[] caps] w (Post g A c l lim w (.error (p, 2))) := by
  have HN := hid (next_walk g A c l p lim w h)
  have hv : nextV l p lim = .ok (.int .u8 x, p + 1) := by rw [nextV, hx]
  rw [hv] at HN
  have HM := hid hm
  have HE := hid hE
  clear hE
  clear hm hx hv
  go_enter Tryd.func94, Tryd.ntmps94
  go_upto_region 2 with (first | (go_at_call 141; refine HN.out.mono ?_; rintro e w1 ⟨rfl, HC, HG⟩))
  have HR := hid (rest_b HC)
  have p0 := h.p0
  have p1 := h.p1
  have hl := h.hl
  have HY := hid (fun W => need_no p W)
  have HMM := hid (HM.out w1 HG)
  have hwp : IntKind.i64.wrap p = p := by rw [IntKind.wrap_i64]; omega
  obtain ⟨c0, c1, c2, f1, f2⟩ := HC.cu
  have S0 : w1.cell? ⟨g, 0, none⟩ = some (.slice A l.length c) ∧ w1.cell? ⟨g, 1, none⟩ = some (.int .i64 (p + 1)) ∧ w1.cell? ⟨g, 2, none⟩ = some (.int .i64 lim) ∧ Below w1.heap.size w1 w1 ∧ w1.heap.size ≤ w1.heap.size := ⟨c0, c1, c2, Below.refl _ _, Nat.le_refl _⟩
  clear c0 c1 c2
  refine wp_region_held_drew (S := (fun W => W.cell? ⟨g, 0, none⟩ = some (.slice A l.length c) ∧ W.cell? ⟨g, 1, none⟩ = some (.int .i64 (p + 1)) ∧ W.cell? ⟨g, 2, none⟩ = some (.int .i64 lim) ∧ Below w1.heap.size w1 W ∧ w1.heap.size ≤ W.heap.size)) (by kernel_rfl) ?hSa1 (fun hHeld => ?goa1)
  case hSa1 => exact keepN S0 (Below.drew (Below.refl _ _))
  refine wpAnyH_take (i := 0) (oi := { dst := some 8, op := Go.Op.move (Go.Operand.tmp 1), type := 144, pos := "cursor.go:88", after := #[], guard := none }) (v := ?_) rfl (by kernel_rfl) (by kernel_rfl) (by kernel_rfl) (fun _ _ _ h => h) (Or.inl ⟨by rfl, ?hya2⟩) (by assumption) ?resta2
  case hya2 => (intro w hSw; (try dsimp only at hSw); go_simp; first | (with_reducible rfl) | (rw [if_neg (by omega)]) | skip)
  simp only [Act.put, List.setIfInBounds_toArray, List.set_cons_zero, List.set_cons_succ]
  refine wpAnyH_take (i := 1) (oi := { dst := some 9, op := Go.Op.move (Go.Operand.tmp 5), type := 5, pos := "cursor.go:88", after := #[], guard := none }) (v := ?_) rfl (by kernel_rfl) (by kernel_rfl) (by kernel_rfl) (fun _ _ _ h => h) (Or.inl ⟨by rfl, ?hya3⟩) (by assumption) ?resta3
  case hya3 => (intro w hSw; (try dsimp only at hSw); go_simp; first | (with_reducible rfl) | (rw [if_neg (by omega)]) | skip)
  simp only [Act.put, List.setIfInBounds_toArray, List.set_cons_zero, List.set_cons_succ]
  refine wpAnyH_take (i := 2) (oi := { dst := some 10, op := Go.Op.move (Go.Operand.tmp 0), type := 81, pos := "cursor.go:88", after := #[], guard := none }) (v := ?_) rfl (by kernel_rfl) (by kernel_rfl) (by kernel_rfl) (fun _ _ _ h => h) (Or.inl ⟨by rfl, ?hya4⟩) (by assumption) ?resta4
  case hya4 => (intro w hSw; (try dsimp only at hSw); go_simp; first | (with_reducible rfl) | (rw [if_neg (by omega)]) | skip)
  simp only [Act.put, List.setIfInBounds_toArray, List.set_cons_zero, List.set_cons_succ]
  refine wpAnyH_take (i := 5) (oi := { dst := some 13, op := Go.Op.move (Go.Operand.tmp 0), type := 81, pos := "cursor.go:88", after := #[], guard := none }) (v := ?_) rfl (by kernel_rfl) (by kernel_rfl) (by kernel_rfl) (fun _ _ _ h => h) (Or.inl ⟨by rfl, ?hya5⟩) (by assumption) ?resta5
  case hya5 => (intro w hSw; (try dsimp only at hSw); go_simp; first | (with_reducible rfl) | (rw [if_neg (by omega)]) | skip)
  simp only [Act.put, List.setIfInBounds_toArray, List.set_cons_zero, List.set_cons_succ]
  refine wpAnyH_take (i := 6) (oi := { dst := some 14, op := Go.Op.nilCheck (Go.Operand.tmp 13), type := 0, pos := "cursor.go:88", after := #[{ on := 5, ground := Go.Ground.data }], guard := none }) (v := ?_) rfl (by kernel_rfl) (by kernel_rfl) (by kernel_rfl) (fun _ _ _ h => h) (Or.inl ⟨by rfl, ?hya6⟩) (by assumption) ?resta6
  case hya6 => (intro w hSw; (try dsimp only at hSw); go_simp; first | (with_reducible rfl) | (rw [if_neg (by omega)]) | skip)
  simp only [Act.put, List.setIfInBounds_toArray, List.set_cons_zero, List.set_cons_succ]
  refine wpAnyH_take (i := 7) (oi := { dst := some 15, op := Go.Op.fieldAddr 136 (Go.Operand.tmp 14) 1, type := 0, pos := "cursor.go:88", after := #[{ on := 6, ground := Go.Ground.data }], guard := none }) (v := ?_) rfl (by kernel_rfl) (by kernel_rfl) (by kernel_rfl) (fun _ _ _ h => h) (Or.inl ⟨by rfl, ?hya7⟩) (by assumption) ?resta7
  case hya7 => (intro w hSw; (try dsimp only at hSw); go_simp; first | (with_reducible rfl) | (rw [if_neg (by omega)]) | skip)
  simp only [Act.put, List.setIfInBounds_toArray, List.set_cons_zero, List.set_cons_succ]
  refine wpAnyH_take (i := 8) (oi := { dst := some 16, op := Go.Op.load 3 (Go.Operand.tmp 15), type := 3, pos := "cursor.go:88", after := #[{ on := 7, ground := Go.Ground.data }], guard := none }) (v := ?_) rfl (by kernel_rfl) (by kernel_rfl) (by kernel_rfl) (fun _ _ _ h => h) (Or.inl ⟨by rfl, ?hya8⟩) (by assumption) ?resta8
  case hya8 => (intro w hSw; (try dsimp only at hSw); go_simp; first | (with_reducible rfl) | (rw [if_neg (by omega)]) | skip)
  simp only [Act.put, List.setIfInBounds_toArray, List.set_cons_zero, List.set_cons_succ]
  refine wpAnyH_take (i := 9) (oi := { dst := some 17, op := Go.Op.binOp Go.BinOp.sub 3 (Go.Operand.tmp 16) (Go.Operand.const (Go.Value.int Go.IntKind.i64 1)) 3, type := 3, pos := "cursor.go:88", after := #[{ on := 8, ground := Go.Ground.data }], guard := none }) (v := ?_) rfl (by kernel_rfl) (by kernel_rfl) (by kernel_rfl) (fun _ _ _ h => h) (Or.inl ⟨by rfl, ?hya9⟩) (by assumption) ?resta9
  case hya9 => (intro w hSw; (try dsimp only at hSw); go_simp; first | (with_reducible rfl) | (rw [if_neg (by omega)]) | skip)
  simp only [Act.put, List.setIfInBounds_toArray, List.set_cons_zero, List.set_cons_succ]
  refine wpAnyH_ready (rs := [3]) (by kernel_rfl) (by simp) ?_
  refine AllReadyH.cons (o := { dst := some 11, op := Go.Op.call { callee := Go.Callee.value (Go.Operand.func 68), args := #[Go.Operand.tmp 10], argTypes := #[81] }, type := 3, pos := "cursor.go:88", after := #[{ on := 2, ground := Go.Ground.data }], guard := none }) rfl (fun K hK => ?_) AllReadyH.nil
  go_simp
  go_at_call 68; (with_reducible refine (HR.out _ hHeld.2.2.2.1).mono ?_); rintro e w2 ⟨rfl, hb2⟩
  refine hK.out _ _ ?_ (fun hHeld => ?_)
  · (try dsimp only); first | exact hHeld | exact keepN hHeld (by assumption) | exact keepN hHeld (below_drewN _ _) | exact keepN S0 (below_drewN w1 _)
  clear hK K
  try simp only [Act.put, List.setIfInBounds_toArray, List.set_cons_zero, List.set_cons_succ]
  refine wpAnyH_ready (rs := [4]) (by kernel_rfl) (by simp) ?_
  refine AllReadyH.cons (o := { dst := some 12, op := Go.Op.call { callee := Go.Callee.value (Go.Operand.tmp 8), args := #[Go.Operand.tmp 9, Go.Operand.tmp 11], argTypes := #[5, 3] }, type := 4, pos := "cursor.go:88", after := #[{ on := 0, ground := Go.Ground.data }, { on := 1, ground := Go.Ground.data }, { on := 3, ground := Go.Ground.data }, { on := 3, ground := Go.Ground.chain }], guard := none }) rfl (fun K hK => ?_) AllReadyH.nil
  go_simp
  rw [HE.out]; go_simp; (with_reducible refine (HMM.out _ hHeld.2.2.2.2 hHeld.2.2.2.1).mono ?_); rintro e w4 ⟨rfl, hb4⟩
  refine hK.out _ _ ?_ (fun hHeld => ?_)
  · (try dsimp only); first | exact hHeld | exact keepN hHeld (by assumption) | exact keepN hHeld (below_drewN _ _) | exact keepN S0 (below_drewN w1 _)
  clear hK K
  try simp only [Act.put, List.setIfInBounds_toArray, List.set_cons_zero, List.set_cons_succ]
  refine wpAnyH_ready (rs := [10]) (by kernel_rfl) (by simp) ?_
  refine AllReadyH.cons (o := { dst := some 18, op := Go.Op.call { callee := Go.Callee.value (Go.Operand.func 92), args := #[Go.Operand.tmp 12, Go.Operand.tmp 17], argTypes := #[4, 3] }, type := 0, pos := "cursor.go:88", after := #[{ on := 4, ground := Go.Ground.data }, { on := 9, ground := Go.Ground.data }, { on := 4, ground := Go.Ground.chain }], guard := none }) rfl (fun K hK => ?_) AllReadyH.nil
  go_simp
  (try rw [hwp]); go_at_call 92; (with_reducible refine (HY.out _).mono ?_); rintro e w3 ⟨rfl, rfl⟩; exact ⟨rfl, rfl, HG.trans (grown_of_below hHeld.2.2.2.1 _)⟩

set_option maxHeartbeats 1000000 in
theorem byte_err (g : Nat) (A : Option Addr) (c : Nat) (l : List Int) (p lim : Int) (w : World) (k : Nat) (caps : Array Value) (h : CB g A c l p lim w) (s : Int × Int) (hx : nextR l p lim = .error s) :
    Calls Tryd.prog 94 #[.pointer (some ⟨g, 0, none⟩), .func (.func k) #[] caps] w (Post g A c l lim w (.error s)) := by
  have HN := hid (next_walk g A c l p lim w h)
  have hv : nextV l p lim = .error s := by rw [nextV, hx]
  rw [hv] at HN
  clear hx hv
  go_enter Tryd.func94, Tryd.ntmps94
  go_upto_region 2 with (first | (go_at_call 141; refine HN.out.mono ?_; rintro e w1 ⟨rfl, HG⟩))
  exact ⟨rfl, rfl, HG⟩
end Go.Proofs.YtiohiiekaofkbaaDoor

/- The cursor: is a rest in a span; rests further on; may a number come out. -/
namespace Go.Proofs.YtiohiiekaofkbaaDoor
set_option linter.unusedVariables false
set_option linter.unusedSimpArgs false
open Go.RowKit

/-- is a rest in a span (one without a bound just in one without a bound) -/
def chB (a b r : Int) : Bool := if 1099511627776 ≤ r then decide (1099511627776 ≤ b) else hasB a b r
set_option maxHeartbeats 1000000 in
theorem chas_any (a b r : Int) (w : World) :
    Calls Tryd.prog 152 #[.agg #[.int .i64 a, .int .i64 b], .int .i64 r] w fun e w' => e = .returned (.bool (chB a b r)) ∧ Below w.heap.size w w' := by
  by_cases h : 1099511627776 ≤ r
  · go_enter Tryd.func152, Tryd.ntmps152
    go_wp2
    go_ret
    exact ⟨ret_bool (by rw [chB, if_pos h]), (by repeat (first | exact Below.refl _ _ | assumption | refine Below.alloc ?_ (by first | exact Nat.le_refl _ | (simp; done) | (simp; omega) | omega) _ | refine Below.drew ?_ | refine Below.setCell ?_ (by first | exact Nat.le_refl _ | (simp; done) | (simp; omega) | omega) _ | refine below_call ?_ (by assumption) (by first | exact Nat.le_refl _ | (simp; done) | (simp; omega) | omega)))⟩
  · have e : chB a b r = hasB a b r := by rw [chB, if_neg h]
    rw [e]
    clear e
    go_enter Tryd.func152, Tryd.ntmps152
    go_wp2_with (first | (go_at_call 142; refine (has_any _ _ _ _).mono ?_; rintro e w' ⟨rfl, hb1⟩; (first | have hq1 := hz1 | have hq1 := True.intro); (first | have hq0 := hz0 | have hq0 := True.intro); obtain ⟨hcc, hff⟩ := bcell hb1; have hz1 := hb1.size; (try simp at hz1); (try have hy1 := Nat.lt_of_lt_of_le hq1 hz1); (try have hy0 := Nat.lt_of_lt_of_le hq0 hz1); (try replace hz1 := Nat.lt_of_succ_le hz1); (try have hz0 := Nat.lt_of_succ_lt hz1)))
    go_ret
    exact ⟨rfl, (by repeat (first | exact Below.refl _ _ | assumption | refine Below.alloc ?_ (by first | exact Nat.le_refl _ | (simp; done) | (simp; omega) | omega) _ | refine Below.drew ?_ | refine Below.setCell ?_ (by first | exact Nat.le_refl _ | (simp; done) | (simp; omega) | omega) _ | refine below_call ?_ (by assumption) (by first | exact Nat.le_refl _ | (simp; done) | (simp; omega) | omega)))⟩
set_option maxHeartbeats 1000000 in
theorem whas_any (a b r : Int) (w : World) :
    Calls Tryd.prog 96 #[.agg #[.int .i64 a, .int .i64 b], .int .i64 r] w fun e w' => e = .returned (.bool (chB a b r)) ∧ Below w.heap.size w w' := by
  by_cases h : 1099511627776 ≤ r
  · go_enter Tryd.func96, Tryd.ntmps96
    go_wp2
    go_ret
    exact ⟨ret_bool (by rw [chB, if_pos h]), (by repeat (first | exact Below.refl _ _ | assumption | refine Below.alloc ?_ (by first | exact Nat.le_refl _ | (simp; done) | (simp; omega) | omega) _ | refine Below.drew ?_ | refine Below.setCell ?_ (by first | exact Nat.le_refl _ | (simp; done) | (simp; omega) | omega) _ | refine below_call ?_ (by assumption) (by first | exact Nat.le_refl _ | (simp; done) | (simp; omega) | omega)))⟩
  · have e : chB a b r = hasB a b r := by rw [chB, if_neg h]
    rw [e]
    clear e
    go_enter Tryd.func96, Tryd.ntmps96
    go_wp2_with (first | (go_at_call 142; refine (has_any _ _ _ _).mono ?_; rintro e w' ⟨rfl, hb1⟩; (first | have hq1 := hz1 | have hq1 := True.intro); (first | have hq0 := hz0 | have hq0 := True.intro); obtain ⟨hcc, hff⟩ := bcell hb1; have hz1 := hb1.size; (try simp at hz1); (try have hy1 := Nat.lt_of_lt_of_le hq1 hz1); (try have hy0 := Nat.lt_of_lt_of_le hq0 hz1); (try replace hz1 := Nat.lt_of_succ_le hz1); (try have hz0 := Nat.lt_of_succ_lt hz1)))
    go_ret
    exact ⟨rfl, (by repeat (first | exact Below.refl _ _ | assumption | refine Below.alloc ?_ (by first | exact Nat.le_refl _ | (simp; done) | (simp; omega) | omega) _ | refine Below.drew ?_ | refine Below.setCell ?_ (by first | exact Nat.le_refl _ | (simp; done) | (simp; omega) | omega) _ | refine below_call ?_ (by assumption) (by first | exact Nat.le_refl _ | (simp; done) | (simp; omega) | omega)))⟩
/-- the rest behind some bytes more -/
def wiR (p lim j : Int) : Int := if lim < 0 then 1099511627776 else lim - p - j
set_option maxHeartbeats 1000000 in
theorem cwithin_any {g : Nat} {A : Option Addr} {c : Nat} {l : List Int} {p lim : Int} {w : World} (h : CB g A c l p lim w) (j : Int) (j0 : 0 ≤ j) (j1 : j ≤ 1000) (W : World) (hb : Below w.heap.size w W) :
    Calls Tryd.prog 165 #[.pointer (some ⟨g, 0, none⟩), .int .i64 j] W (fun e w' => e = .returned (.int .i64 (wiR p lim j)) ∧ Below W.heap.size W w') := by
  have HR := hid (rest_b (h.below hb))
  have p0 := h.p0
  have p1 := h.p1
  have hl := h.hl
  have l1 := h.l1
  obtain ⟨c0, c1, c2, f1, f2⟩ := h.cu.below hb
  by_cases hlim : lim < 0
  · go_enter Tryd.func165, Tryd.ntmps165
    go_wp2
    go_ret
    exact ⟨ret_int (by rw [wiR, if_pos hlim]), Below.refl _ _⟩
  · have e : rest p lim = lim - p := by rw [rest, if_neg hlim]
    rw [e] at HR
    clear e
    go_enter Tryd.func165, Tryd.ntmps165
    go_wp2_with (first | (go_at_call 68; refine (HR.out _ (Below.refl _ _)).mono ?_; rintro e w' ⟨rfl, hb1⟩))
    go_ret
    exact ⟨ret_int (by rw [wiR, if_neg (by omega)]), hb1⟩

/-- a row of ranges -/
def RowR (w : World) (A : Option Addr) (l : List (Int × Int)) : Prop := l = [] ∨ ∃ g, A = some ⟨g, 0, none⟩ ∧ g < w.heap.size ∧ RangesAt w g l
/-- a want: of a rest it tells ranges; it holds as long as nothing but the cursor changes -/
structure Wants (g k : Nat) (caps : Array Value) (w : World) (rg : Int → List (Int × Int)) : Prop where
  ent : Enters k
  len : ∀ r, (rg r).length ≤ 1000
  call : ∀ r, 0 ≤ r → r ≤ 1099511627776 → ∀ W, Rd g w W → Calls Tryd.prog k (#[.int .i64 r] ++ caps) W (fun e w' => ∃ A c, e = .returned (.slice A (rg r).length c) ∧ RowR w' A (rg r) ∧ Below W.heap.size W w')
theorem Wants.rd {g k : Nat} {caps : Array Value} {w w' : World} {rg : Int → List (Int × Int)} (h : Wants g k caps w rg) (hg : Rd g w w') : Wants g k caps w' rg :=
  ⟨h.ent, h.len, fun r r0 r1 W hW => h.call r r0 r1 W (hg.trans hW)⟩
theorem fits_row {A : Option Addr} {cap : Nat} {l : List (Int × Int)} {low shift left : Int} {w : World} (hl : l.length ≤ 1000) (hR : RowR w A l) (hlo : 0 ≤ low) (hlo2 : low < 2 ^ shift.toNat) (hs : 0 ≤ shift) (hs2 : shift ≤ 63) (hf : 0 ≤ left) (hf2 : left ≤ 9) :
    Calls Tryd.prog 146 #[.slice A l.length cap, .int .u64 low, .int .i64 shift, .int .i64 left, .int .i64 32] w fun e w' => e = .returned (.bool (fitsI low shift left 32 l)) ∧ Below w.heap.size w w' := by
  rcases hR with rfl | ⟨g, rfl, hg, hR⟩
  · exact fits_nil cap A low shift left 32 w hlo hlo2 hs hs2 hf hf2 (by decide) (by decide)
  · exact fits_any g cap l low shift left 32 w (by omega) hg (hid hR) hlo hlo2 hs hs2 hf hf2 (by decide) (by decide)
/-- may a number come out with 1 to n bytes more -/
def openN (rg : Int → List (Int × Int)) (p lim v shift : Int) : Nat → Bool
  | 0 => false
  | n + 1 => openN rg p lim v shift n || (decide (0 ≤ wiR p lim (n + 1 : Nat)) && fitsI v shift (n + 1 : Nat) 32 (rg (wiR p lim (n + 1 : Nat))))
theorem openN_mono {rg : Int → List (Int × Int)} {p lim v shift : Int} {i n : Nat} (h : openN rg p lim v shift i = true) (hi : i ≤ n) : openN rg p lim v shift n = true := by
  induction n with
  | zero => have : i = 0 := by omega
            subst this; exact h
  | succ n ih => rcases Nat.lt_or_ge i (n + 1) with q | q
                 · rw [openN, ih (by omega), Bool.true_or]
                 · have : i = n + 1 := by omega
                   subst this; exact h

theorem openN_step {rg : Int → List (Int × Int)} {p lim v shift : Int} {j : Nat} (j0 : 1 ≤ j) (h : openN rg p lim v shift (j - 1) = false) :
    openN rg p lim v shift j = (decide (0 ≤ wiR p lim j) && fitsI v shift j 32 (rg (wiR p lim j))) := by
  obtain ⟨i, rfl⟩ : ∃ i, j = i + 1 := ⟨j - 1, by omega⟩
  rw [openN, show openN rg p lim v shift i = false from h, Bool.false_or]

set_option maxHeartbeats 4000000 in
theorem open_walk (g : Nat) (A : Option Addr) (c : Nat) (l : List Int) (p lim : Int) (w : World) (k : Nat) (caps : Array Value) (rg : Int → List (Int × Int)) (v shift : Int) (n : Nat)
    (h : CB g A c l p lim w) (hw : Wants g k caps w rg) (hv : 0 ≤ v) (hv2 : v < 2 ^ shift.toNat) (hs : 0 ≤ shift) (hs2 : shift ≤ 63) (hn : n ≤ 9) :
    Calls Tryd.prog 145 #[.pointer (some ⟨g, 0, none⟩), .func (.func k) #[] caps, .int .u64 v, .int .i64 shift, .int .i64 n] w (fun e w' => e = .returned (.bool (openN rg p lim v shift n)) ∧ Below w.heap.size w w') := by
  have HC := hid h
  have HW := hid hw
  have HE : ∀ (args : Array Value) (w : World), (callFunc k args).run Tryd.prog w = .ok (.enter k args) w := hw.ent
  clear h hw
  go_enter Tryd.func145, Tryd.ntmps145
  go_wp2
  go_loopw [11] (fun v11 wr => ∃ j : Nat, v11 = .int .i64 j ∧ 1 ≤ j ∧ j ≤ n + 1 ∧ Hid (openN rg p lim v shift (j - 1) = false) ∧ w.heap.size ≤ wr.heap.size ∧ Hid (Below w.heap.size w wr)) (fun v11 _ => n + 1 - (intOf v11).toNat)
  case atStart => exact ⟨1, by go_num, by omega, by omega, hid rfl, Nat.le_refl _, Below.refl _ _⟩
  case round =>
    obtain ⟨j, rfl, j0, j1, HO, hsz, HB⟩ := hrel
    by_cases hlt : j ≤ n
    · have hlt' : (j : Int) ≤ (n : Int) := by omega
      by_cases hr : 0 ≤ wiR p lim j
      · by_cases hf : fitsI v shift j 32 (rg (wiR p lim j)) = true
        · have HF := hid (openN_mono (i := j) (n := n) (by rw [openN_step j0 HO.out, hf, decide_eq_true hr]; rfl) hlt)
          go_wp2_with (first | (go_at_call 165; refine (cwithin_any HC.out _ (by omega) (by omega) _ HB.out).mono ?_; rintro e w1 ⟨rfl, hb1⟩) | ((with_reducible refine (HW.out.call _ hr (by unfold wiR; have := HC.out.p0; have := HC.out.l2; split <;> omega) _ (grown_of_below (HB.out.trans (hb1.mono HB.out.size)) _)).mono ?_); rintro e w2 ⟨A2, c2, rfl, hR2, hb2⟩; have HR2 := hid hR2; clear hR2) | (go_at_call 146; refine (fits_row (HW.out.len _) HR2.out hv hv2 hs hs2 (by omega) (by omega)).mono ?_; rintro e w3 ⟨rfl, hb3⟩))
          go_ret
          exact ⟨ret_bool HF.out.symm, HB.out.trans ((hb1.trans (hb2.mono hb1.size)).trans (hb3.mono (Nat.le_trans hb1.size hb2.size)) |>.mono HB.out.size)⟩
        · have hf' : fitsI v shift j 32 (rg (wiR p lim j)) = false := by simpa using hf
          have HF := hid (show openN rg p lim v shift j = false by rw [openN_step j0 HO.out, hf', Bool.and_false])
          clear hf
          go_wp2_with (first | (go_at_call 165; refine (cwithin_any HC.out _ (by omega) (by omega) _ HB.out).mono ?_; rintro e w1 ⟨rfl, hb1⟩) | ((with_reducible refine (HW.out.call _ hr (by unfold wiR; have := HC.out.p0; have := HC.out.l2; split <;> omega) _ (grown_of_below (HB.out.trans (hb1.mono HB.out.size)) _)).mono ?_); rintro e w2 ⟨A2, c2, rfl, hR2, hb2⟩; have HR2 := hid hR2; clear hR2) | (go_at_call 146; refine (fits_row (HW.out.len _) HR2.out hv hv2 hs hs2 (by omega) (by omega)).mono ?_; rintro e w3 ⟨rfl, hb3⟩))
          go_roundw
          case rel => exact ⟨j + 1, by go_num, by omega, by omega, hid (by simpa using HF.out), Nat.le_trans hsz (Nat.le_trans hb1.size (Nat.le_trans hb2.size hb3.size)), hid (HB.out.trans ((hb1.trans (hb2.mono hb1.size)).trans (hb3.mono (Nat.le_trans hb1.size hb2.size)) |>.mono HB.out.size))⟩
          case measure => simp [intOf]; omega
      · have HF := hid (show openN rg p lim v shift j = false by rw [openN_step j0 HO.out, decide_eq_false hr, Bool.false_and])
        go_wp2_with (first | (go_at_call 165; refine (cwithin_any HC.out _ (by omega) (by omega) _ HB.out).mono ?_; rintro e w1 ⟨rfl, hb1⟩) | ((with_reducible refine (HW.out.call _ (by omega) (by unfold wiR; have := HC.out.p0; have := HC.out.l2; split <;> omega) _ (grown_of_below (HB.out.trans (hb1.mono HB.out.size)) _)).mono ?_); rintro e w2 ⟨A2, c2, rfl, hR2, hb2⟩; have HR2 := hid hR2; clear hR2) | (go_at_call 146; refine (fits_row (HW.out.len _) HR2.out hv hv2 hs hs2 (by omega) (by omega)).mono ?_; rintro e w3 ⟨rfl, hb3⟩))
        go_roundw
        case rel => exact ⟨j + 1, by go_num, by omega, by omega, hid (by simpa using HF.out), Nat.le_trans hsz hb1.size, hid (HB.out.trans (hb1.mono HB.out.size))⟩
        case measure => simp [intOf]; omega
    · go_wp2
      go_ret
      exact ⟨ret_bool (by have : j = n + 1 := by omega
                          subst this; exact HO.out.symm), HB.out⟩
end Go.Proofs.YtiohiiekaofkbaaDoor

/- Try: something is done with a cursor; where it gives up is told. -/
namespace Go.Proofs.YtiohiiekaofkbaaDoor
set_option linter.unusedVariables false
set_option linter.unusedSimpArgs false
open Go.RowKit

/-- all but two blocks is as it was -/
structure Off2 (B C : Nat) (w w' : World) : Prop where
  os : w'.os = w.os
  tape : w'.tape = w.tape
  output : w'.output = w.output
  size : w.heap.size ≤ w'.heap.size
  block : ∀ k, k < w.heap.size → k ≠ B → k ≠ C → w'.heap[k]? = w.heap[k]?

set_option maxHeartbeats 2000000 in
theorem try1_idle (a b : Addr) (w : World) :
    CallsD Tryd.prog 91 #[.pointer (some a), .pointer (some b)] .returning w fun e u' w' => e = .returned (.tuple #[]) ∧ u' = .returning ∧ w' = w := by
  refine callsD_of_wpS Tryd.func91 rfl fun c₀ cs hu => ?_
  apply wpS_seq
  apply wpS_region
  generalize hQ : Exit.thenS (Code.wpS _ _ _) _ = Q
  simp [wpOpsS, go_sem, recoverD, hu, Tryd.ntmps91]
  subst hQ
  simp only [Exit.thenS]
  refine wpS_of_wp ?_
  generalize hQ : (fun e a' w' => _) = Q
  simp only [Array.replicate_succ, Array.replicate_zero, List.push_toArray, List.append_toArray, List.setIfInBounds_toArray, List.set_cons_zero, List.set_cons_succ, List.nil_append, List.cons_append]
  go_wp2
  subst hQ
  cases c₀
  simp_all [bodyPostS, results, Tryd.results91]
theorem as_stop (v : Value) (xT : TypeId) (w : World) : (Instr.typeAssert (.iface 138 v) xT 138 true).run Tryd.prog w = .ok (.tuple #[v, .bool true]) w := by kernel_rfl
theorem off2_end {r r2 : Nat} {x y : Value} {w : World} (u v : Value) (o : Obj) (hne : r2 ≠ r) (h0 : w.cell? ⟨r, 0, none⟩ = some x) (h1 : w.cell? ⟨r2, 0, none⟩ = some y) :
    Off2 r r2 w ((((w.setCell ⟨r, 0, none⟩ u).setCell ⟨r2, 0, none⟩ v).alloc o).drew) ∧ ((((w.setCell ⟨r, 0, none⟩ u).setCell ⟨r2, 0, none⟩ v).alloc o).drew).cell? ⟨r, 0, none⟩ = some u ∧ ((((w.setCell ⟨r, 0, none⟩ u).setCell ⟨r2, 0, none⟩ v).alloc o).drew).cell? ⟨r2, 0, none⟩ = some v := by
  have z0 := cell_lt h0
  have z1 := cell_lt h1
  refine ⟨⟨rfl, rfl, rfl, by simp, fun k hk k0 k1 => ?_⟩, ?_, ?_⟩
  · have e : ∀ W : World, k < W.heap.size → (W.alloc o).heap[k]? = W.heap[k]? := fun W hW => ((Below.refl W.heap.size W).alloc (Nat.le_refl _) o).block k hW
    show (((w.setCell ⟨r, 0, none⟩ u).setCell ⟨r2, 0, none⟩ v).alloc o).heap[k]? = _
    rw [e _ (by simp; exact hk), heap_setCell_other _ _ _ _ k1, heap_setCell_other _ _ _ _ k0]
  · show (((w.setCell ⟨r, 0, none⟩ u).setCell ⟨r2, 0, none⟩ v).alloc o).cell? ⟨r, 0, none⟩ = some u
    rw [World.cell?_alloc_lt _ _ _ (by simp; exact z0), World.cell?_setCell_far _ _ _ _ (fun e => hne e)]
    apply World.cell?_setCell_same; exact h0
  · show (((w.setCell ⟨r, 0, none⟩ u).setCell ⟨r2, 0, none⟩ v).alloc o).cell? ⟨r2, 0, none⟩ = some v
    rw [World.cell?_alloc_lt _ _ _ (by simp; exact z1)]
    apply World.cell?_setCell_same
    rw [World.cell?_setCell_far _ _ _ _ (fun e => hne e.symm)]
    exact h1
set_option maxHeartbeats 2000000 in
theorem try1_stop (r r2 : Nat) (x y : Value) (p er : Int) (older : List PanicEntry) (w : World) (hne : r2 ≠ r) (h0 : w.cell? ⟨r, 0, none⟩ = some x) (h1 : w.cell? ⟨r2, 0, none⟩ = some y) (f0 : w.frozen? ⟨r, 0, none⟩ = false) (f1 : w.frozen? ⟨r2, 0, none⟩ = false) :
    CallsD Tryd.prog 91 #[.pointer (some ⟨r, 0, none⟩), .pointer (some ⟨r2, 0, none⟩)] (.panicking ({ v := stopV p er, recovered := false } :: older)) w fun e u' w' =>
      e = .returned (.tuple #[]) ∧ u' = .panicking ({ v := stopV p er, recovered := true } :: older) ∧ Off2 r r2 w w' ∧ w'.cell? ⟨r, 0, none⟩ = some (.int .i64 p) ∧ w'.cell? ⟨r2, 0, none⟩ = some (.int .i64 er) := by
  have hz0 := cell_lt h0
  have hz1 := cell_lt h1
  refine callsD_of_wpS Tryd.func91 rfl fun c₀ cs hu => ?_
  apply wpS_seq
  apply wpS_region
  generalize hQ : Exit.thenS (Code.wpS _ _ _) _ = Q
  simp [wpOpsS, go_sem, recoverD, hu, Tryd.ntmps91]
  subst hQ
  simp only [Exit.thenS]
  refine wpS_of_wp ?_
  generalize hQ : (fun e a' w' => _) = Q
  simp only [Array.replicate_succ, Array.replicate_zero, List.push_toArray, List.append_toArray, List.setIfInBounds_toArray, List.set_cons_zero, List.set_cons_succ, List.nil_append, List.cons_append]
  unfold stopV
  have HQ := hid hQ
  clear hQ
  have hA := as_stop
  go_upto_region 3 with (fail)
  go_wp2
  go_region
  have hQ := HQ.out
  have hO := off2_end (.int .i64 p) (.int .i64 er) (.cells #[.int .i64 p, .int .i64 er] 138) hne h0 h1
  subst hQ
  refine ⟨rfl, _, rfl, .tuple #[], ?_, rfl, rfl, hO⟩
  simp [results, Tryd.results91, go_sem]

theorem off2_set {r r2 : Nat} {x y : Value} {w : World} (u v : Value) (hne : r2 ≠ r) (h0 : w.cell? ⟨r, 0, none⟩ = some x) (h1 : w.cell? ⟨r2, 0, none⟩ = some y) :
    Off2 r r2 w ((w.setCell ⟨r, 0, none⟩ u).setCell ⟨r2, 0, none⟩ v) ∧ ((w.setCell ⟨r, 0, none⟩ u).setCell ⟨r2, 0, none⟩ v).cell? ⟨r, 0, none⟩ = some u ∧ ((w.setCell ⟨r, 0, none⟩ u).setCell ⟨r2, 0, none⟩ v).cell? ⟨r2, 0, none⟩ = some v := by
  refine ⟨⟨rfl, rfl, rfl, by simp, fun k hk k0 k1 => ?_⟩, ?_, ?_⟩
  · rw [heap_setCell_other _ _ _ _ k1, heap_setCell_other _ _ _ _ k0]
  · rw [World.cell?_setCell_far _ _ _ _ (fun e => hne e)]
    apply World.cell?_setCell_same; exact h0
  · apply World.cell?_setCell_same
    rw [World.cell?_setCell_far _ _ _ _ (fun e => hne e.symm)]
    exact h1
/-- what is asked of what is done with the cursor g: it keeps the two blocks ahead of it; it ends, or gives up -/
def Does (B : Nat) (A : Option Addr) (c : Nat) (l : List Int) (Dn : Int → World → Prop) (St : Int → Int → World → Prop) (W : World) (e : Ending) (w' : World) : Prop :=
  W.heap.size ≤ w'.heap.size ∧ (∀ i, i = B ∨ i = B + 1 → w'.heap[i]? = W.heap[i]?) ∧ ((e = .returned (.tuple #[]) ∧ ∃ p lim, Cu (B + 1 + 1) (.slice A l.length c) p lim w' ∧ Dn p w') ∨ (∃ p er, Stops p er e ∧ St p er w'))

set_option maxHeartbeats 4000000 in
theorem try_walk (A : Option Addr) (c : Nat) (l : List Int) (w : World) (k : Nat) (caps : Array Value) (Dn : Int → World → Prop) (St : Int → Int → World → Prop) (hE : Enters k)
    (hd : ∀ W, Below w.heap.size w W → W.heap.size = w.heap.size + 1 + 1 + 1 → Cu (w.heap.size + 1 + 1) (.slice A l.length c) 0 (-1) W → Calls Tryd.prog k (#[.pointer (some ⟨w.heap.size + 1 + 1, 0, none⟩)] ++ caps) W (Does w.heap.size A c l Dn St W)) :
    Calls Tryd.prog 43 #[.slice A l.length c, .func (.func k) #[] caps] w (fun e w'' => ∃ w', Off2 w.heap.size (w.heap.size + 1) w' w'' ∧ ((∃ p, e = .returned (.tuple #[.int .i64 p, .int .i64 0]) ∧ Dn p w') ∨ (∃ p er, e = .returned (.tuple #[.int .i64 p, .int .i64 er]) ∧ St p er w'))) := by
  have hmf : ∀ (fn : Fn) (first cap : Array Value) (w : World), (Instr.makeFunc fn first cap).run Tryd.prog w = .ok (.func fn first cap) w := fun _ _ _ _ => rfl
  have HD := hid hd
  have HE : ∀ (args : Array Value) (w : World), (callFunc k args).run Tryd.prog w = .ok (.enter k args) w := hE
  clear hd hE
  go_enter_defers Tryd.func43, Tryd.ntmps43
  go_upto_region 3 with (fail)
  have hB : Below w.heap.size w (((w.alloc (.cells #[.int .i64 0] 3)).alloc (.cells #[.int .i64 0] 28)).alloc (.cells #[.slice A l.length c, .int .i64 0, .int .i64 (-1)] 136)) := (by repeat (first | exact Below.refl _ _ | assumption | refine Below.alloc ?_ (by first | exact Nat.le_refl _ | (simp; done) | (simp; omega) | omega) _ | refine Below.drew ?_ | refine Below.setCell ?_ (by first | exact Nat.le_refl _ | (simp; done) | (simp; omega) | omega) _ | refine below_call ?_ (by assumption) (by first | exact Nat.le_refl _ | (simp; done) | (simp; omega) | omega)))
  have hC := HD.out _ hB (by simp) ⟨by go_simp, by go_simp, by go_simp, by go_simp, by go_simp⟩
  have HC := hid hC
  clear hC
  have E0 := hid (show (((w.alloc (.cells #[.int .i64 0] 3)).alloc (.cells #[.int .i64 0] 28)).alloc (.cells #[.slice A l.length c, .int .i64 0, .int .i64 (-1)] 136)).cell? ⟨w.heap.size, 0, none⟩ = some (.int .i64 0) by go_simp)
  have E1 := hid (show (((w.alloc (.cells #[.int .i64 0] 3)).alloc (.cells #[.int .i64 0] 28)).alloc (.cells #[.slice A l.length c, .int .i64 0, .int .i64 (-1)] 136)).cell? ⟨w.heap.size + 1, 0, none⟩ = some (.int .i64 0) by go_simp)
  have Z0 := hid (show (((w.alloc (.cells #[.int .i64 0] 3)).alloc (.cells #[.int .i64 0] 28)).alloc (.cells #[.slice A l.length c, .int .i64 0, .int .i64 (-1)] 136)).frozen? ⟨w.heap.size, 0, none⟩ = false by go_simp)
  have Z1 := hid (show (((w.alloc (.cells #[.int .i64 0] 3)).alloc (.cells #[.int .i64 0] 28)).alloc (.cells #[.slice A l.length c, .int .i64 0, .int .i64 (-1)] 136)).frozen? ⟨w.heap.size + 1, 0, none⟩ = false by go_simp)
  clear hB
  go_wp2_with (first | ((with_reducible refine HC.out.mono ?_); rintro e w1 ⟨hz, hk, (⟨rfl, p, lim, hc, hdn⟩ | ⟨p, er, rfl, hst⟩)⟩ <;> (have k0 := (World.cell?_of_block (a := ⟨w.heap.size, 0, none⟩) (hk _ (.inl rfl))).trans E0.out; have k1 := (World.cell?_of_block (a := ⟨w.heap.size + 1, 0, none⟩) (hk _ (.inr rfl))).trans E1.out; have g0 := (World.frozen?_of_block (a := ⟨w.heap.size, 0, none⟩) (hk _ (.inl rfl))).trans Z0.out; have g1 := (World.frozen?_of_block (a := ⟨w.heap.size + 1, 0, none⟩) (hk _ (.inr rfl))).trans Z1.out; have HK := hid hk; clear hk; (try have c1 := hc.c1))))
  · refine leaves_cons (f := 91) (args := #[.pointer (some ⟨w.heap.size, 0, none⟩), .pointer (some ⟨w.heap.size + 1, 0, none⟩)]) (by simp) (by simp [go_sem]) ?_
    refine (try1_idle _ _ _).mono ?_
    rintro e u' w'' ⟨rfl, rfl, rfl⟩
    obtain ⟨hO, q0, q1⟩ := off2_set (.int .i64 p) (.int .i64 0) (by omega) k0 k1
    refine ⟨.tuple #[.int .i64 p, .int .i64 0], ?_, w1, hO, .inl ⟨p, rfl, hdn⟩⟩
    simp [results, Tryd.results43, go_sem, q0, q1]
  · refine leaves_cons (f := 91) (args := #[.pointer (some ⟨w.heap.size, 0, none⟩), .pointer (some ⟨w.heap.size + 1, 0, none⟩)]) (by simp) (by simp [go_sem]) ?_
    refine (try1_stop w.heap.size (w.heap.size + 1) _ _ p er _ _ (by omega) k0 k1 g0 g1).mono ?_
    rintro e u' w'' ⟨rfl, rfl, hO, q0, q1⟩
    refine ⟨.tuple #[.int .i64 p, .int .i64 er], ?_, w1, hO, .inr ⟨p, er, rfl, hst⟩⟩
    simp [results, Tryd.results43, go_sem, q0, q1]
end Go.Proofs.YtiohiiekaofkbaaDoor

/- Wants of wtype: all numbers; counts of items. -/
namespace Go.Proofs.YtiohiiekaofkbaaDoor
set_option linter.unusedVariables false
set_option linter.unusedSimpArgs false
open Go.RowKit

theorem Rd.cell {g : Nat} {w W : World} (h : Rd g w W) {B i : Nat} {v : Value} (hne : B ≠ g) (hc : w.cell? ⟨B, i, none⟩ = some v) : W.cell? ⟨B, i, none⟩ = some v :=
  (World.cell?_of_block (w := w) (h.block B (cell_lt hc) (fun e => hne (Option.some.inj e)))).trans hc
/-- all numbers, where the rest fits -/
def rgI (a b r : Int) : List (Int × Int) := if chB a b r then [(0, 4294967295)] else []
set_option maxHeartbeats 1000000 in
theorem index1_walk (B : Nat) (a b r : Int) (W : World) (h0 : W.cell? ⟨B, 0, none⟩ = some (.int .i64 a)) (h1 : W.cell? ⟨B, 1, none⟩ = some (.int .i64 b)) :
    Calls Tryd.prog 163 #[.int .i64 r, .pointer (some ⟨B, 0, none⟩)] W (fun e w' => ∃ A c, e = .returned (.slice A (rgI a b r).length c) ∧ RowR w' A (rgI a b r) ∧ Below W.heap.size W w') := by
  rcases hc : chB a b r with _ | _
  · have e : rgI a b r = [] := by rw [rgI, hc]; rfl
    have HC := hid hc
    have HE := hid e
    clear hc e
    go_enter Tryd.func163, Tryd.ntmps163
    go_wp2_with (first | (go_at_call 96; refine (whas_any a b r _).mono ?_; rintro e w1 ⟨he, hb1⟩; rw [HC.out] at he; subst he))
    go_ret
    exact ⟨none, 0, by rw [HE.out]; rfl, .inl HE.out, hb1⟩
  · have e : rgI a b r = [(0, 4294967295)] := by rw [rgI, hc]; rfl
    have HC := hid hc
    have HE := hid e
    clear hc e
    go_enter Tryd.func163, Tryd.ntmps163
    go_wp2_with (first | (go_at_call 96; refine (whas_any a b r _).mono ?_; rintro e w1 ⟨he, hb1⟩; rw [HC.out] at he; subst he; (first | have hq1 := hz1 | have hq1 := True.intro); (first | have hq0 := hz0 | have hq0 := True.intro); obtain ⟨hcc, hff⟩ := bcell hb1; have hz1 := hb1.size; (try simp at hz1); (try have hy1 := Nat.lt_of_lt_of_le hq1 hz1); (try have hy0 := Nat.lt_of_lt_of_le hq0 hz1); (try replace hz1 := Nat.lt_of_succ_le hz1); (try have hz0 := Nat.lt_of_succ_lt hz1)))
    go_ret
    refine ⟨some ⟨w1.heap.size, 0, none⟩, 1, by rw [HE.out]; rfl, .inr ⟨_, rfl, ?_, ?_⟩, ?_⟩
    · simp
    · rw [HE.out]; intro i hi
      have : i = 0 := by simp at hi; omega
      subst this
      exact ⟨by go_simp, by go_simp, by simp, by simp, by simp, by simp⟩
    · exact (by repeat (first | exact Below.refl _ _ | assumption | refine Below.alloc ?_ (by first | exact Nat.le_refl _ | (simp; done) | (simp; omega) | omega) _ | refine Below.drew ?_ | refine Below.setCell ?_ (by first | exact Nat.le_refl _ | (simp; done) | (simp; omega) | omega) _ | refine below_call ?_ (by assumption) (by first | exact Nat.le_refl _ | (simp; done) | (simp; omega) | omega)))
theorem index_wants {g B : Nat} {a b : Int} {w : World} (hne : B ≠ g) (h0 : w.cell? ⟨B, 0, none⟩ = some (.int .i64 a)) (h1 : w.cell? ⟨B, 1, none⟩ = some (.int .i64 b)) :
    Wants g 163 #[.pointer (some ⟨B, 0, none⟩)] w (rgI a b) :=
  ⟨enters Tryd.func163 (by kernel_rfl) rfl, fun r => by unfold rgI; split <;> simp, fun r r0 r1 W hW => index1_walk B a b r W (hW.cell hne h0) (hW.cell hne h1)⟩

/-- counts of items -/
def rgL (a b c d r : Int) : List (Int × Int) := [(cnL a b c d r, cnH a b c d r)]
theorem wi_bd (lo hi : Int) : 0 ≤ wiL lo hi ∧ wiL lo hi ≤ 18446744073709551615 ∧ 0 ≤ wiH lo hi ∧ wiH lo hi ≤ 18446744073709551615 := by
  unfold wiL wiH; split <;> (try split) <;> omega
theorem cn_bd (a b c d r : Int) : 0 ≤ cnL a b c d r ∧ cnL a b c d r ≤ 18446744073709551615 ∧ 0 ≤ cnH a b c d r ∧ cnH a b c d r ≤ 18446744073709551615 := by
  unfold cnL cnH
  split
  · decide
  · exact wi_bd _ _
/-- span.none as it was laid -/
structure Glob (w : World) : Prop where
  size : 5 < w.heap.size
  c0 : w.cell? ⟨5, 0, none⟩ = some (.int .u64 1)
  c1 : w.cell? ⟨5, 1, none⟩ = some (.int .u64 0)
theorem Glob.of {w W : World} (h : Glob w) (hb : Below w.heap.size w W) : Glob W := ⟨Nat.lt_of_lt_of_le h.size hb.size, still hb h.c0, still hb h.c1⟩
theorem Glob.rd {g : Nat} {w W : World} (h : Glob w) (hne : 5 ≠ g) (hg : Rd g w W) : Glob W := ⟨Nat.lt_of_lt_of_le h.size hg.size, hg.cell hne h.c0, hg.cell hne h.c1⟩
theorem counts_glob (a b c d r : Int) (w : World) (ha : 1 ≤ a) (ha2 : a ≤ 1099511627776) (hb : 1 ≤ b) (hb2 : b ≤ 9223372036854775807) (hc : 0 ≤ c) (hc2 : c ≤ 1099511627776) (hd : 0 ≤ d) (hd2 : d ≤ 9223372036854775807) (hr : 0 ≤ r) (hr2 : r ≤ 1099511627776) (hG : Glob w) :
    Calls Tryd.prog 149 #[.agg #[.int .i64 a, .int .i64 b], .agg #[.int .i64 c, .int .i64 d], .int .i64 r] w fun e w' => e = .returned (.agg #[.int .u64 (cnL a b c d r), .int .u64 (cnH a b c d r)]) ∧ Below w.heap.size w w' :=
  counts_any a b c d r w ha ha2 hb hb2 hc hc2 hd hd2 hr hr2 hG.size hG.c0 hG.c1
set_option maxHeartbeats 1000000 in
theorem list1_walk (B C : Nat) (a b c d r : Int) (W : World) (ha : 1 ≤ a) (ha2 : a ≤ 1099511627776) (hb : 1 ≤ b) (hb2 : b ≤ 9223372036854775807) (hc : 0 ≤ c) (hc2 : c ≤ 1099511627776) (hd : 0 ≤ d) (hd2 : d ≤ 9223372036854775807) (hr : 0 ≤ r) (hr2 : r ≤ 1099511627776) (hG : Glob W)
    (h0 : W.cell? ⟨B, 0, none⟩ = some (.int .i64 a)) (h1 : W.cell? ⟨B, 1, none⟩ = some (.int .i64 b)) (k0 : W.cell? ⟨C, 0, none⟩ = some (.int .i64 c)) (k1 : W.cell? ⟨C, 1, none⟩ = some (.int .i64 d)) :
    Calls Tryd.prog 164 #[.int .i64 r, .pointer (some ⟨B, 0, none⟩), .pointer (some ⟨C, 0, none⟩)] W (fun e w' => ∃ A k, e = .returned (.slice A (rgL a b c d r).length k) ∧ RowR w' A (rgL a b c d r) ∧ Below W.heap.size W w') := by
  have HK := hid (fun w' => counts_glob a b c d r w' ha ha2 hb hb2 hc hc2 hd hd2 hr hr2)
  have HG := hid hG
  have HB := hid (cn_bd a b c d r)
  clear hG
  go_enter Tryd.func164, Tryd.ntmps164
  go_wp2_with (first | (go_at_call 149; refine (HK.out _ HG.out).mono ?_; rintro e w1 ⟨rfl, hb1⟩; (first | have hq1 := hz1 | have hq1 := True.intro); (first | have hq0 := hz0 | have hq0 := True.intro); obtain ⟨hcc, hff⟩ := bcell hb1; have hz1 := hb1.size; (try simp at hz1); (try have hy1 := Nat.lt_of_lt_of_le hq1 hz1); (try have hy0 := Nat.lt_of_lt_of_le hq0 hz1); (try replace hz1 := Nat.lt_of_succ_le hz1); (try have hz0 := Nat.lt_of_succ_lt hz1)))
  go_ret
  refine ⟨some ⟨w1.heap.size, 0, none⟩, 1, rfl, .inr ⟨_, rfl, ?_, ?_⟩, ?_⟩
  · simp
  · intro i hi
    have : i = 0 := by simp [rgL] at hi; omega
    subst this
    exact ⟨by simp only [rgL]; go_simp, by simp only [rgL]; go_simp, HB.out⟩
  · exact (by repeat (first | exact Below.refl _ _ | assumption | refine Below.alloc ?_ (by first | exact Nat.le_refl _ | (simp; done) | (simp; omega) | omega) _ | refine Below.drew ?_ | refine Below.setCell ?_ (by first | exact Nat.le_refl _ | (simp; done) | (simp; omega) | omega) _ | refine below_call ?_ (by assumption) (by first | exact Nat.le_refl _ | (simp; done) | (simp; omega) | omega)))
theorem list_wants {g B C : Nat} {a b c d : Int} {w : World} (hgl : 5 ≠ g) (hne : B ≠ g) (hne2 : C ≠ g) (ha : 1 ≤ a) (ha2 : a ≤ 1099511627776) (hb : 1 ≤ b) (hb2 : b ≤ 9223372036854775807) (hc : 0 ≤ c) (hc2 : c ≤ 1099511627776) (hd : 0 ≤ d) (hd2 : d ≤ 9223372036854775807) (hG : Glob w)
    (h0 : w.cell? ⟨B, 0, none⟩ = some (.int .i64 a)) (h1 : w.cell? ⟨B, 1, none⟩ = some (.int .i64 b)) (k0 : w.cell? ⟨C, 0, none⟩ = some (.int .i64 c)) (k1 : w.cell? ⟨C, 1, none⟩ = some (.int .i64 d)) :
    Wants g 164 #[.pointer (some ⟨B, 0, none⟩), .pointer (some ⟨C, 0, none⟩)] w (rgL a b c d) :=
  ⟨enters Tryd.func164 (by kernel_rfl) rfl, fun r => by simp [rgL], fun r r0 r1 W hW => list1_walk B C a b c d r W ha ha2 hb hb2 hc hc2 hd hd2 r0 r1 (hG.rd hgl hW) (hW.cell hne h0) (hW.cell hne h1) (hW.cell hne2 k0) (hW.cell hne2 k1)⟩
end Go.Proofs.YtiohiiekaofkbaaDoor

/- Within. -/
namespace Go.Proofs.YtiohiiekaofkbaaDoor
set_option linter.unusedVariables false
set_option linter.unusedSimpArgs false
open Go.RowKit

def inLim (p lim n : Int) : Int := p + min (max 0 n) (rest p lim)
theorem inLim_wrap {p lim n : Int} (p0 : 0 ≤ p) (p1 : p ≤ 1000000000) (h : 0 ≤ rest p lim ∧ rest p lim ≤ 1099511627776) : IntKind.i64.wrap (p + if rest p lim < if 0 < n then n else 0 then rest p lim else if 0 < n then n else 0) = inLim p lim n := by
  rw [IntKind.wrap_i64]; unfold inLim; omega
theorem moved2 {g : Nat} {sl : Value} {p lim : Int} {w : World} (h : Cu g sl p lim w) (a : Nat) (lim' : Int) :
    Cu g sl p lim' ((w.drewN a).setCell ⟨g, 2, none⟩ (.int .i64 lim')) ∧ Rd g w ((w.drewN a).setCell ⟨g, 2, none⟩ (.int .i64 lim')) := by
  obtain ⟨c0, c1, c2, f1, f2⟩ := h
  have d : ∀ i, i ≠ 2 → (w.setCell ⟨g, 2, none⟩ (.int .i64 lim')).cell? ⟨g, i, none⟩ = w.cell? ⟨g, i, none⟩ := by
    intro i hi; apply World.cell?_setCell_other; intro e; injection e with _ e _; exact hi e.symm
  refine ⟨⟨(d 0 (by decide)).trans c0, (d 1 (by decide)).trans c1, (by apply World.cell?_setCell_same; exact c2), ?_, ?_⟩, ?_⟩
  · exact (World.frozen?_setCell _ _ _ _).trans f1
  · exact (World.frozen?_setCell _ _ _ _).trans f2
  · exact (grown_of_below (below_drewN w a) _).trans (grown_setCell _ g 2 _)
theorem moved2p {g : Nat} {sl : Value} {p lim : Int} {w : World} (h : Cu g sl p lim w) (lim' : Int) :
    Cu g sl p lim' (w.setCell ⟨g, 2, none⟩ (.int .i64 lim')) ∧ Rd g w (w.setCell ⟨g, 2, none⟩ (.int .i64 lim')) := by
  obtain ⟨c0, c1, c2, f1, f2⟩ := h
  have d : ∀ i, i ≠ 2 → (w.setCell ⟨g, 2, none⟩ (.int .i64 lim')).cell? ⟨g, i, none⟩ = w.cell? ⟨g, i, none⟩ := by
    intro i hi; apply World.cell?_setCell_other; intro e; injection e with _ e _; exact hi e.symm
  refine ⟨⟨(d 0 (by decide)).trans c0, (d 1 (by decide)).trans c1, (by apply World.cell?_setCell_same; exact c2), ?_, ?_⟩, ?_⟩
  · exact (World.frozen?_setCell _ _ _ _).trans f1
  · exact (World.frozen?_setCell _ _ _ _).trans f2
  · exact grown_setCell _ g 2 _
set_option maxHeartbeats 4000000 in
theorem within_walk (g : Nat) (A : Option Addr) (c : Nat) (l : List Int) (p lim n : Int) (w : World) (k : Nat) (caps : Array Value) (Dn : Int → World → Prop) (St : Int → Int → World → Prop)
    (h : CB g A c l p lim w) (hp : lim < 0 ∨ p ≤ lim) (hn : -9223372036854775808 ≤ n) (hn2 : n ≤ 549755813888) (hE : Enters k)
    (hd : ∀ W, Rd g w W → CB g A c l p (inLim p lim n) W → Calls Tryd.prog k caps W (fun e w' => (e = .returned (.tuple #[]) ∧ ∃ p', CB g A c l p' (inLim p lim n) w' ∧ Dn p' w') ∨ (∃ q er, Stops q er e ∧ St q er w'))) :
    Calls Tryd.prog 45 #[.pointer (some ⟨g, 0, none⟩), .int .i64 n, .func (.func k) #[] caps] w (fun e w'' => (e = .returned (.tuple #[]) ∧ ∃ p' w', p' = inLim p lim n ∧ Dn p' w' ∧ CB g A c l p' lim w'' ∧ Rd g w' w'') ∨ (∃ p' w', p' ≠ inLim p lim n ∧ Dn p' w' ∧ Stops p' 2 e ∧ Rd g w' w'') ∨ (∃ q er, Stops q er e ∧ St q er w'')) := by
  have HC := hid h
  have HD := hid hd
  have HE : ∀ (args : Array Value) (w : World), (callFunc k args).run Tryd.prog w = .ok (.enter k args) w := hE
  have p0 := h.p0
  have p1 := h.p1
  have hl := h.hl
  have l2 := h.l2
  have HRR := hid (show 0 ≤ rest p lim ∧ rest p lim ≤ 1099511627776 by unfold rest; split <;> omega)
  obtain ⟨c0, c1, c2, f1, f2⟩ := h.cu
  clear h hd hE
  go_enter Tryd.func45, Tryd.ntmps45
  go_upto_region 1 with (fail)
  have HR := hid (fun W (hb : Below w.heap.size w W) => rest_walk g (.slice A l.length c) p lim W (HC.out.cu.below hb) p0 (by omega) (by omega))
  refine wp_region_noPanic ?_
  refine wp_region_held_drew (S := (fun W => W.cell? ⟨g, 1, none⟩ = some (.int .i64 p))) (by kernel_rfl) ?hSa1 (fun hHeld => ?goa1)
  case hSa1 => exact c1
  refine wpAnyH_take (i := 0) (oi := { dst := some 11, op := Go.Op.move (Go.Operand.tmp 0), type := 81, pos := "cursor.go:202", after := #[], guard := none }) (v := ?_) rfl (by kernel_rfl) (by kernel_rfl) (by kernel_rfl) (fun _ _ _ h => h) (Or.inl ⟨by rfl, ?hya2⟩) (by assumption) ?resta2
  case hya2 => (intro w hSw; (try dsimp only at hSw); go_simp; first | (with_reducible rfl) | (rw [if_neg (by omega)]) | skip)
  simp only [Act.put, List.setIfInBounds_toArray, List.set_cons_zero, List.set_cons_succ]
  refine wpAnyH_take (i := 1) (oi := { dst := some 12, op := Go.Op.move (Go.Operand.tmp 0), type := 81, pos := "cursor.go:202", after := #[], guard := none }) (v := ?_) rfl (by kernel_rfl) (by kernel_rfl) (by kernel_rfl) (fun _ _ _ h => h) (Or.inl ⟨by rfl, ?hya3⟩) (by assumption) ?resta3
  case hya3 => (intro w hSw; (try dsimp only at hSw); go_simp; first | (with_reducible rfl) | (rw [if_neg (by omega)]) | skip)
  simp only [Act.put, List.setIfInBounds_toArray, List.set_cons_zero, List.set_cons_succ]
  refine wpAnyH_take (i := 2) (oi := { dst := some 13, op := Go.Op.nilCheck (Go.Operand.tmp 12), type := 0, pos := "cursor.go:202", after := #[{ on := 1, ground := Go.Ground.data }], guard := none }) (v := ?_) rfl (by kernel_rfl) (by kernel_rfl) (by kernel_rfl) (fun _ _ _ h => h) (Or.inl ⟨by rfl, ?hya4⟩) (by assumption) ?resta4
  case hya4 => (intro w hSw; (try dsimp only at hSw); go_simp; first | (with_reducible rfl) | (rw [if_neg (by omega)]) | skip)
  simp only [Act.put, List.setIfInBounds_toArray, List.set_cons_zero, List.set_cons_succ]
  refine wpAnyH_take (i := 3) (oi := { dst := some 14, op := Go.Op.fieldAddr 136 (Go.Operand.tmp 13) 1, type := 0, pos := "cursor.go:202", after := #[{ on := 2, ground := Go.Ground.data }], guard := none }) (v := ?_) rfl (by kernel_rfl) (by kernel_rfl) (by kernel_rfl) (fun _ _ _ h => h) (Or.inl ⟨by rfl, ?hya5⟩) (by assumption) ?resta5
  case hya5 => (intro w hSw; (try dsimp only at hSw); go_simp; first | (with_reducible rfl) | (rw [if_neg (by omega)]) | skip)
  simp only [Act.put, List.setIfInBounds_toArray, List.set_cons_zero, List.set_cons_succ]
  refine wpAnyH_take (i := 4) (oi := { dst := some 15, op := Go.Op.load 3 (Go.Operand.tmp 14), type := 3, pos := "cursor.go:202", after := #[{ on := 3, ground := Go.Ground.data }], guard := none }) (v := ?_) rfl (by kernel_rfl) (by kernel_rfl) (by kernel_rfl) (fun _ _ _ h => h) (Or.inl ⟨by rfl, ?hya6⟩) (by assumption) ?resta6
  case hya6 => (intro w hSw; (try dsimp only at hSw); go_simp; first | (with_reducible rfl) | (rw [if_neg (by omega)]) | skip)
  simp only [Act.put, List.setIfInBounds_toArray, List.set_cons_zero, List.set_cons_succ]
  refine wpAnyH_take (i := 5) (oi := { dst := some 16, op := Go.Op.move (Go.Operand.tmp 1), type := 3, pos := "cursor.go:202", after := #[], guard := none }) (v := ?_) rfl (by kernel_rfl) (by kernel_rfl) (by kernel_rfl) (fun _ _ _ h => h) (Or.inl ⟨by rfl, ?hya7⟩) (by assumption) ?resta7
  case hya7 => (intro w hSw; (try dsimp only at hSw); go_simp; first | (with_reducible rfl) | (rw [if_neg (by omega)]) | skip)
  simp only [Act.put, List.setIfInBounds_toArray, List.set_cons_zero, List.set_cons_succ]
  refine wpAnyH_take (i := 6) (oi := { dst := some 17, op := Go.Op.call { callee := Go.Callee.builtin Go.Builtin.max, args := #[Go.Operand.const (Go.Value.int Go.IntKind.i64 0), Go.Operand.tmp 16], argTypes := #[3, 3] }, type := 3, pos := "cursor.go:202", after := #[{ on := 5, ground := Go.Ground.data }], guard := none }) (v := ?_) rfl (by kernel_rfl) (by kernel_rfl) (by kernel_rfl) (fun _ _ _ h => h) (Or.inl ⟨by rfl, ?hya8⟩) (by assumption) ?resta8
  case hya8 => (intro w hSw; (try dsimp only at hSw); go_simp; first | (with_reducible rfl) | (rw [if_neg (by omega)]) | skip)
  simp only [Act.put, List.setIfInBounds_toArray, List.set_cons_zero, List.set_cons_succ]
  refine wpAnyH_take (i := 7) (oi := { dst := some 18, op := Go.Op.move (Go.Operand.tmp 0), type := 81, pos := "cursor.go:202", after := #[], guard := none }) (v := ?_) rfl (by kernel_rfl) (by kernel_rfl) (by kernel_rfl) (fun _ _ _ h => h) (Or.inl ⟨by rfl, ?hya9⟩) (by assumption) ?resta9
  case hya9 => (intro w hSw; (try dsimp only at hSw); go_simp; first | (with_reducible rfl) | (rw [if_neg (by omega)]) | skip)
  simp only [Act.put, List.setIfInBounds_toArray, List.set_cons_zero, List.set_cons_succ]
  refine wpAnyH_ready (rs := [8]) (by kernel_rfl) (by simp) ?_
  refine AllReadyH.cons (o := { dst := some 19, op := Go.Op.call { callee := Go.Callee.value (Go.Operand.func 68), args := #[Go.Operand.tmp 18], argTypes := #[81] }, type := 3, pos := "cursor.go:202", after := #[{ on := 7, ground := Go.Ground.data }], guard := none }) rfl (fun K hK => ?_) AllReadyH.nil
  go_simp
  go_at_call 68; (with_reducible refine (HR.out _ (Below.drew (Below.refl _ _))).mono ?_); rintro e w2 ⟨rfl, n1, rfl⟩
  refine hK.out _ _ ?_ (fun hHeld => ?_)
  · (try dsimp only); exact c1
  clear hK K
  try simp only [Act.put, List.setIfInBounds_toArray, List.set_cons_zero, List.set_cons_succ]
  refine wpAnyH_take (i := 9) (oi := { dst := some 20, op := Go.Op.call { callee := Go.Callee.builtin Go.Builtin.min, args := #[Go.Operand.tmp 17, Go.Operand.tmp 19], argTypes := #[3, 3] }, type := 3, pos := "cursor.go:202", after := #[{ on := 6, ground := Go.Ground.data }, { on := 8, ground := Go.Ground.data }], guard := none }) (v := ?_) rfl (by kernel_rfl) (by kernel_rfl) (by kernel_rfl) (fun _ _ _ h => h) (Or.inl ⟨by rfl, ?hya10⟩) (by assumption) ?resta10
  case hya10 => (intro w hSw; (try dsimp only at hSw); go_simp; first | (with_reducible rfl) | (rw [if_neg (by omega)]) | skip)
  simp only [Act.put, List.setIfInBounds_toArray, List.set_cons_zero, List.set_cons_succ]
  refine wpAnyH_take (i := 10) (oi := { dst := some 21, op := Go.Op.binOp Go.BinOp.add 3 (Go.Operand.tmp 15) (Go.Operand.tmp 20) 3, type := 3, pos := "cursor.go:202", after := #[{ on := 4, ground := Go.Ground.data }, { on := 9, ground := Go.Ground.data }], guard := none }) (v := ?_) rfl (by kernel_rfl) (by kernel_rfl) (by kernel_rfl) (fun _ _ _ h => h) (Or.inl ⟨by rfl, ?hya11⟩) (by assumption) ?resta11
  case hya11 => (intro w hSw; (try dsimp only at hSw); go_simp; first | (with_reducible rfl) | (rw [if_neg (by omega)]) | skip)
  simp only [Act.put, List.setIfInBounds_toArray, List.set_cons_zero, List.set_cons_succ]
  refine wpAnyH_take (i := 11) (oi := { dst := some 22, op := Go.Op.nilCheck (Go.Operand.tmp 11), type := 0, pos := "cursor.go:202", after := #[{ on := 0, ground := Go.Ground.data }, { on := 0, ground := Go.Ground.phase }, { on := 1, ground := Go.Ground.phase }, { on := 2, ground := Go.Ground.phase }, { on := 3, ground := Go.Ground.phase }, { on := 4, ground := Go.Ground.phase }, { on := 5, ground := Go.Ground.phase }, { on := 6, ground := Go.Ground.phase }, { on := 7, ground := Go.Ground.phase }, { on := 8, ground := Go.Ground.phase }, { on := 9, ground := Go.Ground.phase }, { on := 10, ground := Go.Ground.phase }], guard := none }) (v := ?_) rfl (by kernel_rfl) (by kernel_rfl) (by kernel_rfl) (fun _ _ _ h => h) (Or.inl ⟨by rfl, ?hya12⟩) (by assumption) ?resta12
  case hya12 => (intro w hSw; (try dsimp only at hSw); go_simp; first | (with_reducible rfl) | (rw [if_neg (by omega)]) | skip)
  simp only [Act.put, List.setIfInBounds_toArray, List.set_cons_zero, List.set_cons_succ]
  refine wpAnyH_take (i := 12) (oi := { dst := some 23, op := Go.Op.fieldAddr 136 (Go.Operand.tmp 22) 2, type := 0, pos := "cursor.go:202", after := #[{ on := 11, ground := Go.Ground.data }, { on := 0, ground := Go.Ground.phase }, { on := 1, ground := Go.Ground.phase }, { on := 2, ground := Go.Ground.phase }, { on := 3, ground := Go.Ground.phase }, { on := 4, ground := Go.Ground.phase }, { on := 5, ground := Go.Ground.phase }, { on := 6, ground := Go.Ground.phase }, { on := 7, ground := Go.Ground.phase }, { on := 8, ground := Go.Ground.phase }, { on := 9, ground := Go.Ground.phase }, { on := 10, ground := Go.Ground.phase }], guard := none }) (v := ?_) rfl (by kernel_rfl) (by kernel_rfl) (by kernel_rfl) (fun _ _ _ h => h) (Or.inl ⟨by rfl, ?hya13⟩) (by assumption) ?resta13
  case hya13 => (intro w hSw; (try dsimp only at hSw); go_simp; first | (with_reducible rfl) | (rw [if_neg (by omega)]) | skip)
  simp only [Act.put, List.setIfInBounds_toArray, List.set_cons_zero, List.set_cons_succ]
  refine wpAnyH_ready (rs := [13]) (by kernel_rfl) (by simp) ?_
  refine AllReadyH.cons (o := { dst := none, op := Go.Op.store 3 (Go.Operand.tmp 23) (Go.Operand.tmp 21), type := 0, pos := "cursor.go:202", after := #[{ on := 12, ground := Go.Ground.data }, { on := 10, ground := Go.Ground.data }, { on := 8, ground := Go.Ground.chain }, { on := 0, ground := Go.Ground.phase }, { on := 1, ground := Go.Ground.phase }, { on := 2, ground := Go.Ground.phase }, { on := 3, ground := Go.Ground.phase }, { on := 4, ground := Go.Ground.phase }, { on := 5, ground := Go.Ground.phase }, { on := 6, ground := Go.Ground.phase }, { on := 7, ground := Go.Ground.phase }, { on := 8, ground := Go.Ground.phase }, { on := 9, ground := Go.Ground.phase }, { on := 10, ground := Go.Ground.phase }], guard := none }) rfl (fun K hK => ?_) AllReadyH.nil
  go_simp
  refine hK.out _ _ ?_ (fun hHeld => ?_)
  · (try dsimp only); exact (World.cell?_setCell_other _ _ _ _ (by intro e; injection e with _ e _; simp at e)).trans c1
  clear hK K
  try simp only [Act.put, List.setIfInBounds_toArray, List.set_cons_zero, List.set_cons_succ]
  refine wpAnyH_done (by kernel_rfl) ?_ _
  refine NoPanic.normal ?_
  rw [inLim_wrap p0 (by omega) HRR.out]
  generalize (if rest p lim < if 0 < n then n else 0 then rest p lim else if 0 < n then n else 0) = t1
  generalize (if 0 < n then n else 0) = t2
  obtain ⟨hm, hg⟩ := moved2 HC.out.cu (1 + n1) (inLim p lim n)
  have HB := hid (HC.out.rd hg hm p0 p1 (by have := HRR.out; unfold inLim; omega))
  have HG := hid hg
  clear hm hg c0 c1 c2 f1 f2 hHeld
  go_upto_region 3 with (first | ((with_reducible refine (HD.out _ HG.out HB.out).mono ?_); rintro e w1 (⟨rfl, p', hcb, hdn⟩ | ⟨q, er, rfl, hst⟩)))
  · have HCB := hid hcb
    have HDN := hid hdn
    have HR3 := hid (rest_b hcb)
    have q0 := hcb.p0
    have q1 := hcb.p1
    have HL := hid (show 0 ≤ inLim p lim n by have := HRR.out; unfold inLim; omega)
    have S0 : w1.cell? ⟨g, 0, none⟩ = some (.slice A l.length c) ∧ w1.cell? ⟨g, 1, none⟩ = some (.int .i64 p') ∧ w1.cell? ⟨g, 2, none⟩ = some (.int .i64 (inLim p lim n)) ∧ Below w1.heap.size w1 w1 ∧ w1.heap.size ≤ w1.heap.size := ⟨hcb.cu.c0, hcb.cu.c1, hcb.cu.c2, Below.refl _ _, Nat.le_refl _⟩
    clear hcb hdn
    by_cases he : p' = inLim p lim n
    · have h0 : rest p' (inLim p lim n) = 0 := by unfold rest; rw [if_neg (by have := HL.out; omega)]; omega
      have HP := hid he
      clear he
      refine wp_region_noPanic ?_
      refine wp_region_held_drew (S := (fun W => W.cell? ⟨g, 0, none⟩ = some (.slice A l.length c) ∧ W.cell? ⟨g, 1, none⟩ = some (.int .i64 p') ∧ W.cell? ⟨g, 2, none⟩ = some (.int .i64 (inLim p lim n)) ∧ Below w1.heap.size w1 W ∧ w1.heap.size ≤ W.heap.size)) (by kernel_rfl) ?hSb (fun hHeld => ?gob)
      case hSb => first | exact hHeld | exact keepN hHeld (by assumption) | exact keepN S0 (Below.drew (Below.refl _ _))
      refine wpAnyH_take (i := 0) (oi := { dst := some 26, op := Go.Op.move (Go.Operand.tmp 0), type := 81, pos := "cursor.go:204", after := #[], guard := none }) (v := ?_) rfl (by kernel_rfl) (by kernel_rfl) (by kernel_rfl) (fun _ _ _ h => h) (Or.inl ⟨by rfl, ?hy0b⟩) (by assumption) ?rest0b
      case hy0b => (intro w hSw; (try dsimp only at hSw); go_simp; first | (with_reducible rfl) | (rw [if_neg (by omega)]) | skip)
      simp only [Act.put, List.setIfInBounds_toArray, List.set_cons_zero, List.set_cons_succ]
      refine wpAnyH_take (i := 3) (oi := { dst := some 29, op := Go.Op.move (Go.Operand.tmp 0), type := 81, pos := "cursor.go:204", after := #[], guard := none }) (v := ?_) rfl (by kernel_rfl) (by kernel_rfl) (by kernel_rfl) (fun _ _ _ h => h) (Or.inl ⟨by rfl, ?hy3b⟩) (by assumption) ?rest3b
      case hy3b => (intro w hSw; (try dsimp only at hSw); go_simp; first | (with_reducible rfl) | (rw [if_neg (by omega)]) | skip)
      simp only [Act.put, List.setIfInBounds_toArray, List.set_cons_zero, List.set_cons_succ]
      refine wpAnyH_take (i := 4) (oi := { dst := some 30, op := Go.Op.nilCheck (Go.Operand.tmp 29), type := 0, pos := "cursor.go:204", after := #[{ on := 3, ground := Go.Ground.data }], guard := none }) (v := ?_) rfl (by kernel_rfl) (by kernel_rfl) (by kernel_rfl) (fun _ _ _ h => h) (Or.inl ⟨by rfl, ?hy4b⟩) (by assumption) ?rest4b
      case hy4b => (intro w hSw; (try dsimp only at hSw); go_simp; first | (with_reducible rfl) | (rw [if_neg (by omega)]) | skip)
      simp only [Act.put, List.setIfInBounds_toArray, List.set_cons_zero, List.set_cons_succ]
      refine wpAnyH_take (i := 5) (oi := { dst := some 31, op := Go.Op.fieldAddr 136 (Go.Operand.tmp 30) 1, type := 0, pos := "cursor.go:204", after := #[{ on := 4, ground := Go.Ground.data }], guard := none }) (v := ?_) rfl (by kernel_rfl) (by kernel_rfl) (by kernel_rfl) (fun _ _ _ h => h) (Or.inl ⟨by rfl, ?hy5b⟩) (by assumption) ?rest5b
      case hy5b => (intro w hSw; (try dsimp only at hSw); go_simp; first | (with_reducible rfl) | (rw [if_neg (by omega)]) | skip)
      simp only [Act.put, List.setIfInBounds_toArray, List.set_cons_zero, List.set_cons_succ]
      refine wpAnyH_take (i := 6) (oi := { dst := some 32, op := Go.Op.load 3 (Go.Operand.tmp 31), type := 3, pos := "cursor.go:204", after := #[{ on := 5, ground := Go.Ground.data }], guard := none }) (v := ?_) rfl (by kernel_rfl) (by kernel_rfl) (by kernel_rfl) (fun _ _ _ h => h) (Or.inl ⟨by rfl, ?hy6b⟩) (by assumption) ?rest6b
      case hy6b => (intro w hSw; (try dsimp only at hSw); go_simp; first | (with_reducible rfl) | (rw [if_neg (by omega)]) | skip)
      simp only [Act.put, List.setIfInBounds_toArray, List.set_cons_zero, List.set_cons_succ]
      refine wpAnyH_ready (rs := [1]) (by kernel_rfl) (by simp) ?_
      refine AllReadyH.cons (o := { dst := some 27, op := Go.Op.call { callee := Go.Callee.value (Go.Operand.func 68), args := #[Go.Operand.tmp 26], argTypes := #[81] }, type := 3, pos := "cursor.go:204", after := #[{ on := 0, ground := Go.Ground.data }], guard := none }) rfl (fun K hK => ?_) AllReadyH.nil
      go_simp
      go_at_call 68; (with_reducible refine (HR3.out _ hHeld.2.2.2.1).mono ?_); rintro e w2 ⟨rfl, hb2⟩
      refine hK.out _ _ ?_ (fun hHeld => ?_)
      · (try dsimp only); first | exact hHeld | exact keepN hHeld (by assumption) | exact keepN S0 (Below.drew (Below.refl _ _))
      clear hK K
      try simp only [Act.put, List.setIfInBounds_toArray, List.set_cons_zero, List.set_cons_succ]
      refine wpAnyH_take (i := 2) (oi := { dst := some 28, op := Go.Op.binOp Go.BinOp.eql 3 (Go.Operand.tmp 27) (Go.Operand.const (Go.Value.int Go.IntKind.i64 0)) 3, type := 4, pos := "cursor.go:204", after := #[{ on := 1, ground := Go.Ground.data }], guard := none }) (v := ?_) rfl (by kernel_rfl) (by kernel_rfl) (by kernel_rfl) (fun _ _ _ h => h) (Or.inl ⟨by rfl, ?hy2b⟩) (by assumption) ?rest2b
      case hy2b => (intro w hSw; (try dsimp only at hSw); go_simp; first | (with_reducible rfl) | (rw [if_neg (by omega)]) | skip)
      simp only [Act.put, List.setIfInBounds_toArray, List.set_cons_zero, List.set_cons_succ]
      refine wpAnyH_ready (rs := [7]) (by kernel_rfl) (by simp) ?_
      refine AllReadyH.cons (o := { dst := some 33, op := Go.Op.call { callee := Go.Callee.value (Go.Operand.func 92), args := #[Go.Operand.tmp 28, Go.Operand.tmp 32], argTypes := #[4, 3] }, type := 0, pos := "cursor.go:204", after := #[{ on := 2, ground := Go.Ground.data }, { on := 6, ground := Go.Ground.data }, { on := 1, ground := Go.Ground.chain }], guard := none }) rfl (fun K hK => ?_) AllReadyH.nil
      go_simp
      go_at_call 92; (with_reducible refine (need_yes p' _).mono ?_); rintro e w3 ⟨rfl, rfl⟩
      refine hK.out _ _ ?_ (fun hHeld => ?_)
      · (try dsimp only); first | exact hHeld | exact keepN hHeld (by assumption) | exact keepN S0 (Below.drew (Below.refl _ _))
      clear hK K
      try simp only [Act.put, List.setIfInBounds_toArray, List.set_cons_zero, List.set_cons_succ]
      refine wpAnyH_done (by kernel_rfl) ?_ _
      refine NoPanic.normal ?_
      obtain ⟨c0, c1, c2, hb3, hz3⟩ := hHeld
      have hf := (HCB.out.cu.below hb3).f2
      go_wp2_with fail
      go_end0
      obtain ⟨hm, hg⟩ := moved2p (HCB.out.cu.below hb3) lim
      have hg2 := (grown_of_below hb3 (some g)).trans hg
      exact .inl ⟨rfl, p', w1, HP.out, HDN.out, HCB.out.rd hg2 hm q0 q1 l2, hg2⟩
    · have h0 : ¬ rest p' (inLim p lim n) = 0 := by unfold rest; rw [if_neg (by have := HL.out; omega)]; omega
      refine wp_region_held_drew (S := (fun W => W.cell? ⟨g, 0, none⟩ = some (.slice A l.length c) ∧ W.cell? ⟨g, 1, none⟩ = some (.int .i64 p') ∧ W.cell? ⟨g, 2, none⟩ = some (.int .i64 (inLim p lim n)) ∧ Below w1.heap.size w1 W ∧ w1.heap.size ≤ W.heap.size)) (by kernel_rfl) ?hSd1 (fun hHeld => ?god1)
      case hSd1 => first | exact hHeld | exact keepN hHeld (by assumption) | exact keepN S0 (Below.drew (Below.refl _ _))
      refine wpAnyH_take (i := 0) (oi := { dst := some 26, op := Go.Op.move (Go.Operand.tmp 0), type := 81, pos := "cursor.go:204", after := #[], guard := none }) (v := ?_) rfl (by kernel_rfl) (by kernel_rfl) (by kernel_rfl) (fun _ _ _ h => h) (Or.inl ⟨by rfl, ?hyd2⟩) (by assumption) ?restd2
      case hyd2 => (intro w hSw; (try dsimp only at hSw); go_simp; first | (with_reducible rfl) | (rw [if_neg (by omega)]) | skip)
      simp only [Act.put, List.setIfInBounds_toArray, List.set_cons_zero, List.set_cons_succ]
      refine wpAnyH_take (i := 3) (oi := { dst := some 29, op := Go.Op.move (Go.Operand.tmp 0), type := 81, pos := "cursor.go:204", after := #[], guard := none }) (v := ?_) rfl (by kernel_rfl) (by kernel_rfl) (by kernel_rfl) (fun _ _ _ h => h) (Or.inl ⟨by rfl, ?hyd3⟩) (by assumption) ?restd3
      case hyd3 => (intro w hSw; (try dsimp only at hSw); go_simp; first | (with_reducible rfl) | (rw [if_neg (by omega)]) | skip)
      simp only [Act.put, List.setIfInBounds_toArray, List.set_cons_zero, List.set_cons_succ]
      refine wpAnyH_take (i := 4) (oi := { dst := some 30, op := Go.Op.nilCheck (Go.Operand.tmp 29), type := 0, pos := "cursor.go:204", after := #[{ on := 3, ground := Go.Ground.data }], guard := none }) (v := ?_) rfl (by kernel_rfl) (by kernel_rfl) (by kernel_rfl) (fun _ _ _ h => h) (Or.inl ⟨by rfl, ?hyd4⟩) (by assumption) ?restd4
      case hyd4 => (intro w hSw; (try dsimp only at hSw); go_simp; first | (with_reducible rfl) | (rw [if_neg (by omega)]) | skip)
      simp only [Act.put, List.setIfInBounds_toArray, List.set_cons_zero, List.set_cons_succ]
      refine wpAnyH_take (i := 5) (oi := { dst := some 31, op := Go.Op.fieldAddr 136 (Go.Operand.tmp 30) 1, type := 0, pos := "cursor.go:204", after := #[{ on := 4, ground := Go.Ground.data }], guard := none }) (v := ?_) rfl (by kernel_rfl) (by kernel_rfl) (by kernel_rfl) (fun _ _ _ h => h) (Or.inl ⟨by rfl, ?hyd5⟩) (by assumption) ?restd5
      case hyd5 => (intro w hSw; (try dsimp only at hSw); go_simp; first | (with_reducible rfl) | (rw [if_neg (by omega)]) | skip)
      simp only [Act.put, List.setIfInBounds_toArray, List.set_cons_zero, List.set_cons_succ]
      refine wpAnyH_take (i := 6) (oi := { dst := some 32, op := Go.Op.load 3 (Go.Operand.tmp 31), type := 3, pos := "cursor.go:204", after := #[{ on := 5, ground := Go.Ground.data }], guard := none }) (v := ?_) rfl (by kernel_rfl) (by kernel_rfl) (by kernel_rfl) (fun _ _ _ h => h) (Or.inl ⟨by rfl, ?hyd6⟩) (by assumption) ?restd6
      case hyd6 => (intro w hSw; (try dsimp only at hSw); go_simp; first | (with_reducible rfl) | (rw [if_neg (by omega)]) | skip)
      simp only [Act.put, List.setIfInBounds_toArray, List.set_cons_zero, List.set_cons_succ]
      refine wpAnyH_ready (rs := [1]) (by kernel_rfl) (by simp) ?_
      refine AllReadyH.cons (o := { dst := some 27, op := Go.Op.call { callee := Go.Callee.value (Go.Operand.func 68), args := #[Go.Operand.tmp 26], argTypes := #[81] }, type := 3, pos := "cursor.go:204", after := #[{ on := 0, ground := Go.Ground.data }], guard := none }) rfl (fun K hK => ?_) AllReadyH.nil
      go_simp
      go_at_call 68; (with_reducible refine (HR3.out _ hHeld.2.2.2.1).mono ?_); rintro e w2 ⟨rfl, hb2⟩
      refine hK.out _ _ ?_ (fun hHeld => ?_)
      · (try dsimp only); first | exact hHeld | exact keepN hHeld (by assumption) | exact keepN S0 (Below.drew (Below.refl _ _))
      clear hK K
      try simp only [Act.put, List.setIfInBounds_toArray, List.set_cons_zero, List.set_cons_succ]
      refine wpAnyH_take (i := 2) (oi := { dst := some 28, op := Go.Op.binOp Go.BinOp.eql 3 (Go.Operand.tmp 27) (Go.Operand.const (Go.Value.int Go.IntKind.i64 0)) 3, type := 4, pos := "cursor.go:204", after := #[{ on := 1, ground := Go.Ground.data }], guard := none }) (v := ?_) rfl (by kernel_rfl) (by kernel_rfl) (by kernel_rfl) (fun _ _ _ h => h) (Or.inl ⟨by rfl, ?hyd7⟩) (by assumption) ?restd7
      case hyd7 => (intro w hSw; (try dsimp only at hSw); go_simp; first | (with_reducible rfl) | (rw [if_neg (by omega)]) | skip)
      simp only [Act.put, List.setIfInBounds_toArray, List.set_cons_zero, List.set_cons_succ]
      refine wpAnyH_ready (rs := [7]) (by kernel_rfl) (by simp) ?_
      refine AllReadyH.cons (o := { dst := some 33, op := Go.Op.call { callee := Go.Callee.value (Go.Operand.func 92), args := #[Go.Operand.tmp 28, Go.Operand.tmp 32], argTypes := #[4, 3] }, type := 0, pos := "cursor.go:204", after := #[{ on := 2, ground := Go.Ground.data }, { on := 6, ground := Go.Ground.data }, { on := 1, ground := Go.Ground.chain }], guard := none }) rfl (fun K hK => ?_) AllReadyH.nil
      go_simp
      rw [show (rest p' (inLim p lim n) == 0) = false from by simpa using h0]; go_at_call 92; (with_reducible refine (need_no p' _).mono ?_); rintro e w3 ⟨rfl, rfl⟩; exact ⟨rfl, .inr (.inl ⟨p', w1, he, HDN.out, rfl, grown_of_below hHeld.2.2.2.1 _⟩)⟩
  · exact ⟨rfl, .inr (.inr ⟨q, er, rfl, hst⟩)⟩
end Go.Proofs.YtiohiiekaofkbaaDoor

/- wtype: which bytes are types; what the readers ask of a byte. -/
namespace Go.Proofs.YtiohiiekaofkbaaDoor
set_option linter.unusedVariables false
set_option linter.unusedSimpArgs false
open Go.RowKit

def refB (x : Int) : Bool := decide (x = 112 ∨ x = 111)
def valB (x : Int) : Bool := decide (123 ≤ x ∧ x ≤ 127) || refB x
theorem vref_any (x : Int) (w : World) : Calls Tryd.prog 30 #[.int .u8 x] w fun e w' => e = .returned (.bool (refB x)) ∧ Below w.heap.size w w' := by
  go_enter Tryd.func30, Tryd.ntmps30
  go_wp2
  all_goals
    go_ret
    exact ⟨ret_bool (by rw [Bool.eq_iff_iff]; simp [refB]; try omega), (by repeat (first | exact Below.refl _ _ | assumption | refine Below.alloc ?_ (by first | exact Nat.le_refl _ | (simp; done) | (simp; omega) | omega) _ | refine Below.drew ?_ | refine Below.setCell ?_ (by first | exact Nat.le_refl _ | (simp; done) | (simp; omega) | omega) _ | refine below_call ?_ (by assumption) (by first | exact Nat.le_refl _ | (simp; done) | (simp; omega) | omega)))⟩
theorem vright_any (x : Int) (w : World) : Calls Tryd.prog 29 #[.int .u8 x] w fun e w' => e = .returned (.bool (valB x)) ∧ Below w.heap.size w w' := by
  go_enter Tryd.func29, Tryd.ntmps29
  go_wp2_with (first | (go_at_call 30; refine (vref_any _ _).mono ?_; rintro e w' ⟨rfl, hb1⟩; (first | have hq1 := hz1 | have hq1 := True.intro); (first | have hq0 := hz0 | have hq0 := True.intro); obtain ⟨hcc, hff⟩ := bcell hb1; have hz1 := hb1.size; (try simp at hz1); (try have hy1 := Nat.lt_of_lt_of_le hq1 hz1); (try have hy0 := Nat.lt_of_lt_of_le hq0 hz1); (try replace hz1 := Nat.lt_of_succ_le hz1); (try have hz0 := Nat.lt_of_succ_lt hz1)))
  all_goals
    go_ret
    exact ⟨ret_bool (by rw [Bool.eq_iff_iff]; simp [valB, refB]; try omega), (by repeat (first | exact Below.refl _ _ | assumption | refine Below.alloc ?_ (by first | exact Nat.le_refl _ | (simp; done) | (simp; omega) | omega) _ | refine Below.drew ?_ | refine Below.setCell ?_ (by first | exact Nat.le_refl _ | (simp; done) | (simp; omega) | omega) _ | refine below_call ?_ (by assumption) (by first | exact Nat.le_refl _ | (simp; done) | (simp; omega) | omega)))⟩
theorem readVal1_any (x r : Int) (w : World) : Calls Tryd.prog 144 #[.int .u8 x, .int .i64 r] w fun e w' => e = .returned (.bool (valB x)) ∧ Below w.heap.size w w' := by
  go_enter Tryd.func144, Tryd.ntmps144
  go_wp2_with (first | (go_at_call 29; refine (vright_any _ _).mono ?_; rintro e w' ⟨rfl, hb1⟩; (first | have hq1 := hz1 | have hq1 := True.intro); (first | have hq0 := hz0 | have hq0 := True.intro); obtain ⟨hcc, hff⟩ := bcell hb1; have hz1 := hb1.size; (try simp at hz1); (try have hy1 := Nat.lt_of_lt_of_le hq1 hz1); (try have hy0 := Nat.lt_of_lt_of_le hq0 hz1); (try replace hz1 := Nat.lt_of_succ_le hz1); (try have hz0 := Nat.lt_of_succ_lt hz1)))
  go_ret
  exact ⟨rfl, (by repeat (first | exact Below.refl _ _ | assumption | refine Below.alloc ?_ (by first | exact Nat.le_refl _ | (simp; done) | (simp; omega) | omega) _ | refine Below.drew ?_ | refine Below.setCell ?_ (by first | exact Nat.le_refl _ | (simp; done) | (simp; omega) | omega) _ | refine below_call ?_ (by assumption) (by first | exact Nat.le_refl _ | (simp; done) | (simp; omega) | omega)))⟩
theorem readGlobal1_any (x r : Int) (w : World) : Calls Tryd.prog 99 #[.int .u8 x, .int .i64 r] w fun e w' => e = .returned (.bool (decide (x ≤ 1))) ∧ Below w.heap.size w w' := by
  go_enter Tryd.func99, Tryd.ntmps99
  go_wp2
  go_ret
  exact ⟨rfl, (by repeat (first | exact Below.refl _ _ | assumption | refine Below.alloc ?_ (by first | exact Nat.le_refl _ | (simp; done) | (simp; omega) | omega) _ | refine Below.drew ?_ | refine Below.setCell ?_ (by first | exact Nat.le_refl _ | (simp; done) | (simp; omega) | omega) _ | refine below_call ?_ (by assumption) (by first | exact Nat.le_refl _ | (simp; done) | (simp; omega) | omega)))⟩
def formB (a b x r : Int) : Bool := decide (x = 96) && chB a b r
theorem readFunc1_any (x r a b : Int) (B : Nat) (w : World) (h0 : w.cell? ⟨B, 0, none⟩ = some (.int .i64 a)) (h1 : w.cell? ⟨B, 1, none⟩ = some (.int .i64 b)) :
    Calls Tryd.prog 95 #[.int .u8 x, .int .i64 r, .pointer (some ⟨B, 0, none⟩)] w fun e w' => e = .returned (.bool (formB a b x r)) ∧ Below w.heap.size w w' := by
  by_cases hx : x = 96
  · subst hx
    have e : formB a b 96 r = chB a b r := by simp [formB]
    rw [e]; clear e
    go_enter Tryd.func95, Tryd.ntmps95
    go_wp2_with (first | (go_at_call 96; refine (whas_any _ _ _ _).mono ?_; rintro e w' ⟨rfl, hb1⟩; (first | have hq1 := hz1 | have hq1 := True.intro); (first | have hq0 := hz0 | have hq0 := True.intro); obtain ⟨hcc, hff⟩ := bcell hb1; have hz1 := hb1.size; (try simp at hz1); (try have hy1 := Nat.lt_of_lt_of_le hq1 hz1); (try have hy0 := Nat.lt_of_lt_of_le hq0 hz1); (try replace hz1 := Nat.lt_of_succ_le hz1); (try have hz0 := Nat.lt_of_succ_lt hz1)))
    go_ret
    exact ⟨rfl, (by repeat (first | exact Below.refl _ _ | assumption | refine Below.alloc ?_ (by first | exact Nat.le_refl _ | (simp; done) | (simp; omega) | omega) _ | refine Below.drew ?_ | refine Below.setCell ?_ (by first | exact Nat.le_refl _ | (simp; done) | (simp; omega) | omega) _ | refine below_call ?_ (by assumption) (by first | exact Nat.le_refl _ | (simp; done) | (simp; omega) | omega)))⟩
  · go_enter Tryd.func95, Tryd.ntmps95
    go_wp2
    go_ret
    exact ⟨ret_bool (by simp [formB, hx]), (by repeat (first | exact Below.refl _ _ | assumption | refine Below.alloc ?_ (by first | exact Nat.le_refl _ | (simp; done) | (simp; omega) | omega) _ | refine Below.drew ?_ | refine Below.setCell ?_ (by first | exact Nat.le_refl _ | (simp; done) | (simp; omega) | omega) _ | refine below_call ?_ (by assumption) (by first | exact Nat.le_refl _ | (simp; done) | (simp; omega) | omega)))⟩
def tabB (a b x r : Int) : Bool := refB x && chB a b r
theorem readTable1_any (x r a b : Int) (B : Nat) (w : World) (h0 : w.cell? ⟨B, 0, none⟩ = some (.int .i64 a)) (h1 : w.cell? ⟨B, 1, none⟩ = some (.int .i64 b)) :
    Calls Tryd.prog 100 #[.int .u8 x, .int .i64 r, .pointer (some ⟨B, 0, none⟩)] w fun e w' => e = .returned (.bool (tabB a b x r)) ∧ Below w.heap.size w w' := by
  have h2 := cell_lt h0
  rcases hx : refB x with _ | _
  · have HX := hid hx
    clear hx
    go_enter Tryd.func100, Tryd.ntmps100
    go_wp2_with (first | (go_at_call 30; refine (vref_any _ _).mono ?_; rintro e w' ⟨he, hb1⟩; rw [HX.out] at he; subst he; (first | have hq1 := hz1 | have hq1 := True.intro); (first | have hq0 := hz0 | have hq0 := True.intro); obtain ⟨hcc, hff⟩ := bcell hb1; have hz1 := hb1.size; (try simp at hz1); (try have hy1 := Nat.lt_of_lt_of_le hq1 hz1); (try have hy0 := Nat.lt_of_lt_of_le hq0 hz1); (try replace hz1 := Nat.lt_of_succ_le hz1); (try have hz0 := Nat.lt_of_succ_lt hz1)))
    go_ret
    exact ⟨ret_bool (by simp [tabB, HX.out]), (by repeat (first | exact Below.refl _ _ | assumption | refine Below.alloc ?_ (by first | exact Nat.le_refl _ | (simp; done) | (simp; omega) | omega) _ | refine Below.drew ?_ | refine Below.setCell ?_ (by first | exact Nat.le_refl _ | (simp; done) | (simp; omega) | omega) _ | refine below_call ?_ (by assumption) (by first | exact Nat.le_refl _ | (simp; done) | (simp; omega) | omega)))⟩
  · have HX := hid hx
    clear hx
    go_enter Tryd.func100, Tryd.ntmps100
    go_wp2_with (first | (go_at_call 30; refine (vref_any _ _).mono ?_; rintro e w' ⟨he, hb1⟩; rw [HX.out] at he; subst he; (first | have hq1 := hz1 | have hq1 := True.intro); (first | have hq0 := hz0 | have hq0 := True.intro); obtain ⟨hcc, hff⟩ := bcell hb1; have hz1 := hb1.size; (try simp at hz1); (try have hy1 := Nat.lt_of_lt_of_le hq1 hz1); (try have hy0 := Nat.lt_of_lt_of_le hq0 hz1); (try replace hz1 := Nat.lt_of_succ_le hz1); (try have hz0 := Nat.lt_of_succ_lt hz1)) | (go_at_call 96; refine (whas_any _ _ _ _).mono ?_; rintro e w2 ⟨rfl, hb2⟩))
    go_ret
    exact ⟨ret_bool (by simp [tabB, HX.out]), hb1.trans (hb2.mono hb1.size)⟩
end Go.Proofs.YtiohiiekaofkbaaDoor
