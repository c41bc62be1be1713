/- The cursor: its cells, its rest; giving up. -/
import Derived.Test.YtiohiiekaofkbaaDoorB0
import Derived.Deep.QuietTactic
import Derived.BigQuiet
namespace Go.Proofs.YtiohiiekaofkbaaDoor
set_option linter.unusedVariables false
set_option linter.unusedSimpArgs false
open Go.RowKit

/-- a cursor: bytes, a place, the innermost limit -/
structure Cu (g : Nat) (sl : Value) (p lim : Int) (w : World) : Prop where
  c0 : w.cell? ⟨g, 0, none⟩ = some sl
  c1 : w.cell? ⟨g, 1, none⟩ = some (.int .i64 p)
  c2 : w.cell? ⟨g, 2, none⟩ = some (.int .i64 lim)
  f1 : w.frozen? ⟨g, 1, none⟩ = false
  f2 : w.frozen? ⟨g, 2, none⟩ = false
/-- the rest -/
def rest (p lim : Int) : Int := if lim < 0 then 1099511627776 else lim - p
/-- what it gives up with -/
def stopV (p e : Int) : Value := .iface 138 (.agg #[.int .i64 p, .int .i64 e])
def Stops (p er : Int) (e : Ending) : Prop := e = .panicked [{ v := stopV p er, recovered := false }]

set_option maxHeartbeats 1000000 in
theorem rest_walk (g : Nat) (sl : Value) (p lim : Int) (w : World) (h : Cu g sl p lim w) (p0 : 0 ≤ p) (p1 : p ≤ 4611686018427387904) (l1 : lim ≤ 4611686018427387904) :
    Calls Tryd.prog 68 #[.pointer (some ⟨g, 0, none⟩)] w (fun e w' => e = .returned (.int .i64 (rest p lim)) ∧ ∃ n, w' = w.drewN n) := by
  obtain ⟨c0, c1, c2, f1, f2⟩ := h
  by_cases hl : lim < 0
  · go_enter Tryd.func68, Tryd.ntmps68
    go_wp2
    go_ret
    exact ⟨ret_int (by rw [rest, if_pos hl]), 0, rfl⟩
  · have hr : rest p lim = lim - p := by rw [rest, if_neg hl]
    have hl0 : 0 ≤ lim := by omega
    rw [hr]
    clear hr
    go_enter Tryd.func68, Tryd.ntmps68
    go_upto_region 3 with (fail)
    go_quiet (fail)
    go_wp2_with fail
    go_ret
    exact ⟨rfl, nq, rfl⟩

set_option maxHeartbeats 1000000 in
theorem need_yes (p : Int) (w : World) : Calls Tryd.prog 92 #[.bool true, .int .i64 p] w (fun e w' => e = .returned (.tuple #[]) ∧ w' = w) := by
  go_enter Tryd.func92, Tryd.ntmps92
  go_wp2
  go_end0
  exact ⟨rfl, rfl⟩
set_option maxHeartbeats 1000000 in
theorem need_no (p : Int) (w : World) : Calls Tryd.prog 92 #[.bool false, .int .i64 p] w (fun e w' => Stops p 2 e ∧ w' = w) := by
  go_enter Tryd.func92, Tryd.ntmps92
  go_wp2
  exact ⟨rfl, rfl, rfl⟩

/-- bytes that are only read -/
def BytesAt (A : Option Addr) (l : List Int) (w : World) : Prop := l = [] ∨ ∃ ad, A = some ad ∧ ∀ (j : Nat) (x : Int), l[j]? = some x → w.cell? (ad.add j) = some (.int .u8 x)
/-- what a reader leaves: all but the cursor's own block is as it was -/
abbrev Rd (g : Nat) (w w' : World) : Prop := w.grownBy w' (some g)
theorem Cu.lt {g : Nat} {sl : Value} {p lim : Int} {w : World} (h : Cu g sl p lim w) : g < w.heap.size := cell_lt h.c0
theorem Cu.below {g : Nat} {sl : Value} {p lim : Int} {w w' : World} (h : Cu g sl p lim w) (hb : Below w.heap.size w w') : Cu g sl p lim w' := by
  have hl := h.lt
  have hc : ∀ i, w'.cell? ⟨g, i, none⟩ = w.cell? ⟨g, i, none⟩ := fun i => hb.cell (p := ⟨g, i, none⟩) hl
  have hf : ∀ i, w'.frozen? ⟨g, i, none⟩ = w.frozen? ⟨g, i, none⟩ := fun i => hb.frozen (p := ⟨g, i, none⟩) hl
  exact ⟨(hc 0).trans h.c0, (hc 1).trans h.c1, (hc 2).trans h.c2, (hf 1).trans h.f1, (hf 2).trans h.f2⟩
theorem grown_of_below {w w' : World} (h : Below w.heap.size w w') (row : Option Nat) : w.grownBy w' row := ⟨h.os, h.tape, h.output, h.size, fun i hi _ => h.block i hi⟩

/-- the next byte, or with what it gives up, and where -/
def nextR (l : List Int) (p lim : Int) : Except (Int × Int) Int := if rest p lim ≤ 0 then .error (p, 2) else match l[p.toNat]? with | some x => .ok x | none => .error (l.length, 1)

theorem keepN {g : Nat} {a b c : Value} {w0 W W' : World} {B : Nat} (h : W.cell? ⟨g, 0, none⟩ = some a ∧ W.cell? ⟨g, 1, none⟩ = some b ∧ W.cell? ⟨g, 2, none⟩ = some c ∧ Below B w0 W ∧ B ≤ W.heap.size) (hb : Below W.heap.size W W') :
    W'.cell? ⟨g, 0, none⟩ = some a ∧ W'.cell? ⟨g, 1, none⟩ = some b ∧ W'.cell? ⟨g, 2, none⟩ = some c ∧ Below B w0 W' ∧ B ≤ W'.heap.size := by
  have hl : g < W.heap.size := cell_lt h.1
  have hc : ∀ i, W'.cell? ⟨g, i, none⟩ = W.cell? ⟨g, i, none⟩ := fun i => hb.cell (p := ⟨g, i, none⟩) hl
  exact ⟨(hc 0).trans h.1, (hc 1).trans h.2.1, (hc 2).trans h.2.2.1, h.2.2.2.1.trans (hb.mono h.2.2.2.2), Nat.le_trans h.2.2.2.2 hb.size⟩
theorem below_drewN (w : World) (n : Nat) : Below w.heap.size w (w.drewN n) := ⟨rfl, rfl, rfl, Nat.le_refl _, fun _ _ => rfl⟩

set_option maxHeartbeats 4000000 in
theorem next_lim (g : Nat) (A : Option Addr) (c : Nat) (l : List Int) (p lim : Int) (w : World) (h : Cu g (.slice A l.length c) p lim w) (p0 : 0 ≤ p) (p1 : p ≤ l.length) (hl : l.length ≤ 1000000000) (l1 : lim ≤ 4611686018427387904) (hr : rest p lim ≤ 0) :
    Calls Tryd.prog 141 #[.pointer (some ⟨g, 0, none⟩)] w (fun e w' => Stops p 2 e ∧ Rd g w w') := by
  have HR := hid (fun W (hb : Below w.heap.size w W) => rest_walk g (.slice A l.length c) p lim W (h.below hb) p0 (by omega) l1)
  have HN := hid (fun W => need_no p W)
  have hc := h
  obtain ⟨c0, c1, c2, f1, f2⟩ := h
  go_enter Tryd.func141, Tryd.ntmps141
  go_upto_region 1 with (fail)
  have S0 : w.cell? ⟨g, 0, none⟩ = some (.slice A l.length c) ∧ w.cell? ⟨g, 1, none⟩ = some (.int .i64 p) ∧ w.cell? ⟨g, 2, none⟩ = some (.int .i64 lim) ∧ Below w.heap.size w w ∧ w.heap.size ≤ w.heap.size := ⟨c0, c1, c2, Below.refl _ _, Nat.le_refl _⟩
  clear c0 c1 c2 f1 f2 hc
  refine wp_region_held_drew (S := (fun W => W.cell? ⟨g, 0, none⟩ = some (.slice A l.length c) ∧ W.cell? ⟨g, 1, none⟩ = some (.int .i64 p) ∧ W.cell? ⟨g, 2, none⟩ = some (.int .i64 lim) ∧ Below w.heap.size w W ∧ w.heap.size ≤ W.heap.size)) (by kernel_rfl) ?hSa1 (fun hHeld => ?goa1)
  case hSa1 => exact keepN S0 (Below.drew (Below.refl _ _))
  refine wpAnyH_take (i := 0) (oi := { dst := some 3, op := Go.Op.move (Go.Operand.tmp 0), type := 81, pos := "cursor.go:77", after := #[], guard := none }) (v := ?_) rfl (by kernel_rfl) (by kernel_rfl) (by kernel_rfl) (fun _ _ _ h => h) (Or.inl ⟨by rfl, ?hya2⟩) (by assumption) ?resta2
  case hya2 => (intro w hSw; (try dsimp only at hSw); go_simp; first | (with_reducible rfl) | (rw [if_neg (by omega)]) | skip)
  simp only [Act.put, List.setIfInBounds_toArray, List.set_cons_zero, List.set_cons_succ]
  refine wpAnyH_take (i := 3) (oi := { dst := some 6, op := Go.Op.move (Go.Operand.tmp 0), type := 81, pos := "cursor.go:77", after := #[], guard := none }) (v := ?_) rfl (by kernel_rfl) (by kernel_rfl) (by kernel_rfl) (fun _ _ _ h => h) (Or.inl ⟨by rfl, ?hya3⟩) (by assumption) ?resta3
  case hya3 => (intro w hSw; (try dsimp only at hSw); go_simp; first | (with_reducible rfl) | (rw [if_neg (by omega)]) | skip)
  simp only [Act.put, List.setIfInBounds_toArray, List.set_cons_zero, List.set_cons_succ]
  refine wpAnyH_take (i := 4) (oi := { dst := some 7, op := Go.Op.nilCheck (Go.Operand.tmp 6), type := 0, pos := "cursor.go:77", after := #[{ on := 3, ground := Go.Ground.data }], guard := none }) (v := ?_) rfl (by kernel_rfl) (by kernel_rfl) (by kernel_rfl) (fun _ _ _ h => h) (Or.inl ⟨by rfl, ?hya4⟩) (by assumption) ?resta4
  case hya4 => (intro w hSw; (try dsimp only at hSw); go_simp; first | (with_reducible rfl) | (rw [if_neg (by omega)]) | skip)
  simp only [Act.put, List.setIfInBounds_toArray, List.set_cons_zero, List.set_cons_succ]
  refine wpAnyH_take (i := 5) (oi := { dst := some 8, op := Go.Op.fieldAddr 136 (Go.Operand.tmp 7) 1, type := 0, pos := "cursor.go:77", after := #[{ on := 4, ground := Go.Ground.data }], guard := none }) (v := ?_) rfl (by kernel_rfl) (by kernel_rfl) (by kernel_rfl) (fun _ _ _ h => h) (Or.inl ⟨by rfl, ?hya5⟩) (by assumption) ?resta5
  case hya5 => (intro w hSw; (try dsimp only at hSw); go_simp; first | (with_reducible rfl) | (rw [if_neg (by omega)]) | skip)
  simp only [Act.put, List.setIfInBounds_toArray, List.set_cons_zero, List.set_cons_succ]
  refine wpAnyH_take (i := 6) (oi := { dst := some 9, op := Go.Op.load 3 (Go.Operand.tmp 8), type := 3, pos := "cursor.go:77", after := #[{ on := 5, ground := Go.Ground.data }], guard := none }) (v := ?_) rfl (by kernel_rfl) (by kernel_rfl) (by kernel_rfl) (fun _ _ _ h => h) (Or.inl ⟨by rfl, ?hya6⟩) (by assumption) ?resta6
  case hya6 => (intro w hSw; (try dsimp only at hSw); go_simp; first | (with_reducible rfl) | (rw [if_neg (by omega)]) | skip)
  simp only [Act.put, List.setIfInBounds_toArray, List.set_cons_zero, List.set_cons_succ]
  refine wpAnyH_ready (rs := [1]) (by kernel_rfl) (by simp) ?_
  refine AllReadyH.cons (o := { dst := some 4, op := Go.Op.call { callee := Go.Callee.value (Go.Operand.func 68), args := #[Go.Operand.tmp 3], argTypes := #[81] }, type := 3, pos := "cursor.go:77", after := #[{ on := 0, ground := Go.Ground.data }], guard := none }) rfl (fun K hK => ?_) AllReadyH.nil
  go_simp
  go_at_call 68; (with_reducible refine (HR.out _ hHeld.2.2.2.1).mono ?_); rintro e w1 ⟨rfl, n1, rfl⟩
  refine hK.out _ _ ?_ (fun hHeld => ?_)
  · (try dsimp only); exact keepN hHeld (below_drewN _ _)
  clear hK K
  try simp only [Act.put, List.setIfInBounds_toArray, List.set_cons_zero, List.set_cons_succ]
  refine wpAnyH_take (i := 2) (oi := { dst := some 5, op := Go.Op.binOp Go.BinOp.gtr 3 (Go.Operand.tmp 4) (Go.Operand.const (Go.Value.int Go.IntKind.i64 0)) 3, type := 4, pos := "cursor.go:77", after := #[{ on := 1, ground := Go.Ground.data }], guard := none }) (v := ?_) rfl (by kernel_rfl) (by kernel_rfl) (by kernel_rfl) (fun _ _ _ h => h) (Or.inl ⟨by rfl, ?hya7⟩) (by assumption) ?resta7
  case hya7 => (intro w hSw; (try dsimp only at hSw); go_simp; first | (with_reducible rfl) | (rw [if_neg (by omega)]) | skip)
  simp only [Act.put, List.setIfInBounds_toArray, List.set_cons_zero, List.set_cons_succ]
  refine wpAnyH_ready (rs := [7]) (by kernel_rfl) (by simp) ?_
  refine AllReadyH.cons (o := { dst := some 10, op := Go.Op.call { callee := Go.Callee.value (Go.Operand.func 92), args := #[Go.Operand.tmp 5, Go.Operand.tmp 9], argTypes := #[4, 3] }, type := 0, pos := "cursor.go:77", after := #[{ on := 2, ground := Go.Ground.data }, { on := 6, ground := Go.Ground.data }, { on := 1, ground := Go.Ground.chain }], guard := none }) rfl (fun K hK => ?_) AllReadyH.nil
  go_simp
  rw [decide_eq_false (show ¬ 0 < rest p lim by omega)]; go_at_call 92; (with_reducible refine (HN.out _).mono ?_); rintro e w1 ⟨rfl, rfl⟩; exact ⟨rfl, rfl, grown_of_below (below_drewN w _) _⟩


set_option maxHeartbeats 4000000 in
theorem next_end (g : Nat) (A : Option Addr) (c : Nat) (l : List Int) (p lim : Int) (w : World) (h : Cu g (.slice A l.length c) p lim w) (p0 : 0 ≤ p) (p1 : p ≤ l.length) (p2 : l.length ≤ p) (hl : l.length ≤ 1000000000) (l1 : lim ≤ 4611686018427387904) (hr : 0 < rest p lim) :
    Calls Tryd.prog 141 #[.pointer (some ⟨g, 0, none⟩)] w (fun e w' => Stops l.length 1 e ∧ Rd g w w') := by
  have HR := hid (fun W (hb : Below w.heap.size w W) => rest_walk g (.slice A l.length c) p lim W (h.below hb) p0 (by omega) l1)
  have HN := hid (fun W => need_yes p W)
  obtain ⟨c0, c1, c2, f1, f2⟩ := h
  go_enter Tryd.func141, Tryd.ntmps141
  go_upto_region 1 with (fail)
  have S0 : w.cell? ⟨g, 0, none⟩ = some (.slice A l.length c) ∧ w.cell? ⟨g, 1, none⟩ = some (.int .i64 p) ∧ w.cell? ⟨g, 2, none⟩ = some (.int .i64 lim) ∧ Below w.heap.size w w ∧ w.heap.size ≤ w.heap.size := ⟨c0, c1, c2, Below.refl _ _, Nat.le_refl _⟩
  clear c0 c1 c2 f1 f2
  refine wp_region_noPanic ?_
  refine wp_region_held_drew (S := (fun W => W.cell? ⟨g, 0, none⟩ = some (.slice A l.length c) ∧ W.cell? ⟨g, 1, none⟩ = some (.int .i64 p) ∧ W.cell? ⟨g, 2, none⟩ = some (.int .i64 lim) ∧ Below w.heap.size w W ∧ w.heap.size ≤ W.heap.size)) (by kernel_rfl) ?hSa (fun hHeld => ?goa)
  case hSa => exact keepN S0 (Below.drew (Below.refl _ _))
  refine wpAnyH_take (i := 0) (oi := { dst := some 3, op := Go.Op.move (Go.Operand.tmp 0), type := 81, pos := "cursor.go:77", after := #[], guard := none }) (v := ?_) rfl (by kernel_rfl) (by kernel_rfl) (by kernel_rfl) (fun _ _ _ h => h) (Or.inl ⟨by rfl, ?hy0a⟩) (by assumption) ?rest0a
  case hy0a => (intro w hSw; (try dsimp only at hSw); go_simp; first | (with_reducible rfl) | (rw [if_neg (by omega)]) | skip)
  simp only [Act.put, List.setIfInBounds_toArray, List.set_cons_zero, List.set_cons_succ]
  refine wpAnyH_take (i := 3) (oi := { dst := some 6, op := Go.Op.move (Go.Operand.tmp 0), type := 81, pos := "cursor.go:77", after := #[], guard := none }) (v := ?_) rfl (by kernel_rfl) (by kernel_rfl) (by kernel_rfl) (fun _ _ _ h => h) (Or.inl ⟨by rfl, ?hy3a⟩) (by assumption) ?rest3a
  case hy3a => (intro w hSw; (try dsimp only at hSw); go_simp; first | (with_reducible rfl) | (rw [if_neg (by omega)]) | skip)
  simp only [Act.put, List.setIfInBounds_toArray, List.set_cons_zero, List.set_cons_succ]
  refine wpAnyH_take (i := 4) (oi := { dst := some 7, op := Go.Op.nilCheck (Go.Operand.tmp 6), type := 0, pos := "cursor.go:77", after := #[{ on := 3, ground := Go.Ground.data }], guard := none }) (v := ?_) rfl (by kernel_rfl) (by kernel_rfl) (by kernel_rfl) (fun _ _ _ h => h) (Or.inl ⟨by rfl, ?hy4a⟩) (by assumption) ?rest4a
  case hy4a => (intro w hSw; (try dsimp only at hSw); go_simp; first | (with_reducible rfl) | (rw [if_neg (by omega)]) | skip)
  simp only [Act.put, List.setIfInBounds_toArray, List.set_cons_zero, List.set_cons_succ]
  refine wpAnyH_take (i := 5) (oi := { dst := some 8, op := Go.Op.fieldAddr 136 (Go.Operand.tmp 7) 1, type := 0, pos := "cursor.go:77", after := #[{ on := 4, ground := Go.Ground.data }], guard := none }) (v := ?_) rfl (by kernel_rfl) (by kernel_rfl) (by kernel_rfl) (fun _ _ _ h => h) (Or.inl ⟨by rfl, ?hy5a⟩) (by assumption) ?rest5a
  case hy5a => (intro w hSw; (try dsimp only at hSw); go_simp; first | (with_reducible rfl) | (rw [if_neg (by omega)]) | skip)
  simp only [Act.put, List.setIfInBounds_toArray, List.set_cons_zero, List.set_cons_succ]
  refine wpAnyH_take (i := 6) (oi := { dst := some 9, op := Go.Op.load 3 (Go.Operand.tmp 8), type := 3, pos := "cursor.go:77", after := #[{ on := 5, ground := Go.Ground.data }], guard := none }) (v := ?_) rfl (by kernel_rfl) (by kernel_rfl) (by kernel_rfl) (fun _ _ _ h => h) (Or.inl ⟨by rfl, ?hy6a⟩) (by assumption) ?rest6a
  case hy6a => (intro w hSw; (try dsimp only at hSw); go_simp; first | (with_reducible rfl) | (rw [if_neg (by omega)]) | skip)
  simp only [Act.put, List.setIfInBounds_toArray, List.set_cons_zero, List.set_cons_succ]
  refine wpAnyH_ready (rs := [1]) (by kernel_rfl) (by simp) ?_
  refine AllReadyH.cons (o := { dst := some 4, op := Go.Op.call { callee := Go.Callee.value (Go.Operand.func 68), args := #[Go.Operand.tmp 3], argTypes := #[81] }, type := 3, pos := "cursor.go:77", after := #[{ on := 0, ground := Go.Ground.data }], guard := none }) rfl (fun K hK => ?_) AllReadyH.nil
  go_simp
  go_at_call 68; (with_reducible refine (HR.out _ hHeld.2.2.2.1).mono ?_); rintro e w1 ⟨rfl, n1, rfl⟩
  refine hK.out _ _ ?_ (fun hHeld => ?_)
  · (try dsimp only); first | exact keepN hHeld (below_drewN _ _) | exact keepN S0 (below_drewN w _)
  clear hK K
  try simp only [Act.put, List.setIfInBounds_toArray, List.set_cons_zero, List.set_cons_succ]
  refine wpAnyH_take (i := 2) (oi := { dst := some 5, op := Go.Op.binOp Go.BinOp.gtr 3 (Go.Operand.tmp 4) (Go.Operand.const (Go.Value.int Go.IntKind.i64 0)) 3, type := 4, pos := "cursor.go:77", after := #[{ on := 1, ground := Go.Ground.data }], guard := none }) (v := ?_) rfl (by kernel_rfl) (by kernel_rfl) (by kernel_rfl) (fun _ _ _ h => h) (Or.inl ⟨by rfl, ?hy2a⟩) (by assumption) ?rest2a
  case hy2a => (intro w hSw; (try dsimp only at hSw); go_simp; first | (with_reducible rfl) | (rw [if_neg (by omega)]) | skip)
  simp only [Act.put, List.setIfInBounds_toArray, List.set_cons_zero, List.set_cons_succ]
  refine wpAnyH_ready (rs := [7]) (by kernel_rfl) (by simp) ?_
  refine AllReadyH.cons (o := { dst := some 10, op := Go.Op.call { callee := Go.Callee.value (Go.Operand.func 92), args := #[Go.Operand.tmp 5, Go.Operand.tmp 9], argTypes := #[4, 3] }, type := 0, pos := "cursor.go:77", after := #[{ on := 2, ground := Go.Ground.data }, { on := 6, ground := Go.Ground.data }, { on := 1, ground := Go.Ground.chain }], guard := none }) rfl (fun K hK => ?_) AllReadyH.nil
  go_simp
  go_at_call 92; (with_reducible refine (HN.out _).mono ?_); rintro e w1 ⟨rfl, rfl⟩
  refine hK.out _ _ ?_ (fun hHeld => ?_)
  · (try dsimp only); first | exact keepN hHeld (below_drewN _ _) | exact keepN S0 (below_drewN w _)
  clear hK K
  try simp only [Act.put, List.setIfInBounds_toArray, List.set_cons_zero, List.set_cons_succ]
  refine wpAnyH_done (by kernel_rfl) ?_ _
  refine NoPanic.normal ?_
  obtain ⟨c0, c1, c2, -⟩ := S0
  go_wp2_with fail
  go_quiet (fail)
  go_wp2_with fail
  exact ⟨rfl, rfl, grown_of_below (below_drewN w _) _⟩

theorem add_block (a : Addr) (k : Nat) : (a.add k).block = a.block := by unfold Addr.add; split <;> rfl
theorem cell_lt' {w : World} {a : Addr} {v : Value} (h : w.cell? a = some v) : a.block < w.heap.size := by
  rcases Nat.lt_or_ge a.block w.heap.size with q | q
  · exact q
  · simp [World.cell?, Array.getElem?_eq_none q] at h
theorem grown_setCell (w : World) (g i : Nat) (v : Value) : w.grownBy (w.setCell ⟨g, i, none⟩ v) (some g) :=
  ⟨rfl, rfl, rfl, by simp, fun k _ hne => heap_setCell_other w ⟨g, i, none⟩ k v (fun e => hne (congrArg some e))⟩
theorem moved {g : Nat} {sl : Value} {p lim : Int} {w : World} (h : Cu g sl p lim w) (a b : Nat) (p' : Int) :
    Cu g sl p' lim (((w.drewN a).setCell ⟨g, 1, none⟩ (.int .i64 p')).drewN b) ∧ Rd g w (((w.drewN a).setCell ⟨g, 1, none⟩ (.int .i64 p')).drewN b) := by
  obtain ⟨c0, c1, c2, f1, f2⟩ := h
  have d : ∀ i, i ≠ 1 → (w.setCell ⟨g, 1, none⟩ (.int .i64 p')).cell? ⟨g, i, none⟩ = w.cell? ⟨g, i, none⟩ := by
    intro i hi; apply World.cell?_setCell_other; intro e; injection e with _ e _; exact hi e.symm
  refine ⟨⟨(d 0 (by decide)).trans c0, (by apply World.cell?_setCell_same; exact c1), (d 2 (by decide)).trans c2, ?_, ?_⟩, ?_⟩
  · exact (World.frozen?_setCell _ _ _ _).trans f1
  · exact (World.frozen?_setCell _ _ _ _).trans f2
  · exact (grown_of_below (below_drewN w a) _).trans ((grown_setCell _ g 1 _).trans (grown_of_below (below_drewN _ b) _))

set_option maxHeartbeats 4000000 in
theorem next_ok (g : Nat) (ad : Addr) (c : Nat) (n : Nat) (x : Int) (p lim : Int) (w : World) (h : Cu g (.slice (some ad) n c) p lim w) (p0 : 0 ≤ p) (p1 : p < n) (hl : n ≤ 1000000000) (hne : ad.block ≠ g) (hx : w.cell? (ad.add p.toNat) = some (.int .u8 x)) (l1 : lim ≤ 4611686018427387904) (hr : 0 < rest p lim) :
    Calls Tryd.prog 141 #[.pointer (some ⟨g, 0, none⟩)] w (fun e w' => e = .returned (.int .u8 x) ∧ Cu g (.slice (some ad) n c) (p + 1) lim w' ∧ Rd g w w') := by
  have HR := hid (fun W (hb : Below w.heap.size w W) => rest_walk g (.slice (some ad) n c) p lim W (h.below hb) p0 (by omega) l1)
  have HN := hid (fun W => need_yes p W)
  have HM := hid (fun (a b : Nat) => moved h a b (p + 1))
  obtain ⟨c0, c1, c2, f1, f2⟩ := h
  go_enter Tryd.func141, Tryd.ntmps141
  go_upto_region 1 with (fail)
  have S0 : w.cell? ⟨g, 0, none⟩ = some (.slice (some ad) n c) ∧ w.cell? ⟨g, 1, none⟩ = some (.int .i64 p) ∧ w.cell? ⟨g, 2, none⟩ = some (.int .i64 lim) ∧ Below w.heap.size w w ∧ w.heap.size ≤ w.heap.size := ⟨c0, c1, c2, Below.refl _ _, Nat.le_refl _⟩
  clear c0 c1 c2
  refine wp_region_noPanic ?_
  refine wp_region_held_drew (S := (fun W => W.cell? ⟨g, 0, none⟩ = some (.slice (some ad) n c) ∧ W.cell? ⟨g, 1, none⟩ = some (.int .i64 p) ∧ W.cell? ⟨g, 2, none⟩ = some (.int .i64 lim) ∧ Below w.heap.size w W ∧ w.heap.size ≤ W.heap.size)) (by kernel_rfl) ?hSa (fun hHeld => ?goa)
  case hSa => exact keepN S0 (Below.drew (Below.refl _ _))
  refine wpAnyH_take (i := 0) (oi := { dst := some 3, op := Go.Op.move (Go.Operand.tmp 0), type := 81, pos := "cursor.go:77", after := #[], guard := none }) (v := ?_) rfl (by kernel_rfl) (by kernel_rfl) (by kernel_rfl) (fun _ _ _ h => h) (Or.inl ⟨by rfl, ?hy0a⟩) (by assumption) ?rest0a
  case hy0a => (intro w hSw; (try dsimp only at hSw); go_simp; first | (with_reducible rfl) | (rw [if_neg (by omega)]) | skip)
  simp only [Act.put, List.setIfInBounds_toArray, List.set_cons_zero, List.set_cons_succ]
  refine wpAnyH_take (i := 3) (oi := { dst := some 6, op := Go.Op.move (Go.Operand.tmp 0), type := 81, pos := "cursor.go:77", after := #[], guard := none }) (v := ?_) rfl (by kernel_rfl) (by kernel_rfl) (by kernel_rfl) (fun _ _ _ h => h) (Or.inl ⟨by rfl, ?hy3a⟩) (by assumption) ?rest3a
  case hy3a => (intro w hSw; (try dsimp only at hSw); go_simp; first | (with_reducible rfl) | (rw [if_neg (by omega)]) | skip)
  simp only [Act.put, List.setIfInBounds_toArray, List.set_cons_zero, List.set_cons_succ]
  refine wpAnyH_take (i := 4) (oi := { dst := some 7, op := Go.Op.nilCheck (Go.Operand.tmp 6), type := 0, pos := "cursor.go:77", after := #[{ on := 3, ground := Go.Ground.data }], guard := none }) (v := ?_) rfl (by kernel_rfl) (by kernel_rfl) (by kernel_rfl) (fun _ _ _ h => h) (Or.inl ⟨by rfl, ?hy4a⟩) (by assumption) ?rest4a
  case hy4a => (intro w hSw; (try dsimp only at hSw); go_simp; first | (with_reducible rfl) | (rw [if_neg (by omega)]) | skip)
  simp only [Act.put, List.setIfInBounds_toArray, List.set_cons_zero, List.set_cons_succ]
  refine wpAnyH_take (i := 5) (oi := { dst := some 8, op := Go.Op.fieldAddr 136 (Go.Operand.tmp 7) 1, type := 0, pos := "cursor.go:77", after := #[{ on := 4, ground := Go.Ground.data }], guard := none }) (v := ?_) rfl (by kernel_rfl) (by kernel_rfl) (by kernel_rfl) (fun _ _ _ h => h) (Or.inl ⟨by rfl, ?hy5a⟩) (by assumption) ?rest5a
  case hy5a => (intro w hSw; (try dsimp only at hSw); go_simp; first | (with_reducible rfl) | (rw [if_neg (by omega)]) | skip)
  simp only [Act.put, List.setIfInBounds_toArray, List.set_cons_zero, List.set_cons_succ]
  refine wpAnyH_take (i := 6) (oi := { dst := some 9, op := Go.Op.load 3 (Go.Operand.tmp 8), type := 3, pos := "cursor.go:77", after := #[{ on := 5, ground := Go.Ground.data }], guard := none }) (v := ?_) rfl (by kernel_rfl) (by kernel_rfl) (by kernel_rfl) (fun _ _ _ h => h) (Or.inl ⟨by rfl, ?hy6a⟩) (by assumption) ?rest6a
  case hy6a => (intro w hSw; (try dsimp only at hSw); go_simp; first | (with_reducible rfl) | (rw [if_neg (by omega)]) | skip)
  simp only [Act.put, List.setIfInBounds_toArray, List.set_cons_zero, List.set_cons_succ]
  refine wpAnyH_ready (rs := [1]) (by kernel_rfl) (by simp) ?_
  refine AllReadyH.cons (o := { dst := some 4, op := Go.Op.call { callee := Go.Callee.value (Go.Operand.func 68), args := #[Go.Operand.tmp 3], argTypes := #[81] }, type := 3, pos := "cursor.go:77", after := #[{ on := 0, ground := Go.Ground.data }], guard := none }) rfl (fun K hK => ?_) AllReadyH.nil
  go_simp
  go_at_call 68; (with_reducible refine (HR.out _ hHeld.2.2.2.1).mono ?_); rintro e w1 ⟨rfl, n1, rfl⟩
  refine hK.out _ _ ?_ (fun hHeld => ?_)
  · (try dsimp only); first | exact keepN hHeld (below_drewN _ _) | exact keepN S0 (below_drewN w _)
  clear hK K
  try simp only [Act.put, List.setIfInBounds_toArray, List.set_cons_zero, List.set_cons_succ]
  refine wpAnyH_take (i := 2) (oi := { dst := some 5, op := Go.Op.binOp Go.BinOp.gtr 3 (Go.Operand.tmp 4) (Go.Operand.const (Go.Value.int Go.IntKind.i64 0)) 3, type := 4, pos := "cursor.go:77", after := #[{ on := 1, ground := Go.Ground.data }], guard := none }) (v := ?_) rfl (by kernel_rfl) (by kernel_rfl) (by kernel_rfl) (fun _ _ _ h => h) (Or.inl ⟨by rfl, ?hy2a⟩) (by assumption) ?rest2a
  case hy2a => (intro w hSw; (try dsimp only at hSw); go_simp; first | (with_reducible rfl) | (rw [if_neg (by omega)]) | skip)
  simp only [Act.put, List.setIfInBounds_toArray, List.set_cons_zero, List.set_cons_succ]
  refine wpAnyH_ready (rs := [7]) (by kernel_rfl) (by simp) ?_
  refine AllReadyH.cons (o := { dst := some 10, op := Go.Op.call { callee := Go.Callee.value (Go.Operand.func 92), args := #[Go.Operand.tmp 5, Go.Operand.tmp 9], argTypes := #[4, 3] }, type := 0, pos := "cursor.go:77", after := #[{ on := 2, ground := Go.Ground.data }, { on := 6, ground := Go.Ground.data }, { on := 1, ground := Go.Ground.chain }], guard := none }) rfl (fun K hK => ?_) AllReadyH.nil
  go_simp
  go_at_call 92; (with_reducible refine (HN.out _).mono ?_); rintro e w1 ⟨rfl, rfl⟩
  refine hK.out _ _ ?_ (fun hHeld => ?_)
  · (try dsimp only); first | exact keepN hHeld (below_drewN _ _) | exact keepN S0 (below_drewN w _)
  clear hK K
  try simp only [Act.put, List.setIfInBounds_toArray, List.set_cons_zero, List.set_cons_succ]
  refine wpAnyH_done (by kernel_rfl) ?_ _
  refine NoPanic.normal ?_
  obtain ⟨c0, c1, c2, -⟩ := S0
  go_wp2_with fail
  go_quiet (fail)
  go_wp2_with fail
  have hwp : IntKind.i64.wrap p = p := by rw [IntKind.wrap_i64]; omega
  have hxs : ((w.drewN (1 + n1 + nq)).setCell ⟨g, 1, none⟩ (.int .i64 (p + 1))).cell? (ad.add p.toNat) = some (.int .u8 x) := (World.cell?_setCell_far _ _ _ _ (fun q => hne ((add_block ad _).symm.trans q.symm))).trans hx
  go_quiet (first | (simp only [hxs]; go_simp; done) | (simp only [hwp, if_pos (And.intro p0 p1)]; first | done | exact ⟨rfl, rfl⟩ | (go_simp; done)) | (simp [hwp, p0, p1]; done))
  go_wp2_with fail
  go_ret
  exact ⟨rfl, HM.out _ _⟩
end Go.Proofs.YtiohiiekaofkbaaDoor
