/- Some texts of this seat in one. -/
import Derived.Test.YtiohiiekaofkbaaDoorZC
import Derived.Test.YtiohiiekaofkbaaDoorC3
/- wtype: ReadLimits$1. -/
namespace Go.Proofs.YtiohiiekaofkbaaDoor
set_option linter.unusedVariables false
set_option linter.unusedSimpArgs false
open Go.RowKit

/-- wtype.number as it was laid -/
structure GlobN (w : World) : Prop where
  c0 : w.cell? ⟨3, 0, none⟩ = some (.int .i64 1)
  c1 : w.cell? ⟨3, 1, none⟩ = some (.int .i64 5)
theorem keep4c {w W W' : World} {p1 p2 p3 p4 : Nat × Nat} {a b c d : Value} {n : Nat} (h : W.cell? ⟨p1.1, p1.2, none⟩ = some a ∧ W.cell? ⟨p2.1, p2.2, none⟩ = some b ∧ W.cell? ⟨p3.1, p3.2, none⟩ = some c ∧ W.cell? ⟨p4.1, p4.2, none⟩ = some d ∧ Below n w W ∧ n ≤ W.heap.size) (hb : Below W.heap.size W W') :
    W'.cell? ⟨p1.1, p1.2, none⟩ = some a ∧ W'.cell? ⟨p2.1, p2.2, none⟩ = some b ∧ W'.cell? ⟨p3.1, p3.2, none⟩ = some c ∧ W'.cell? ⟨p4.1, p4.2, none⟩ = some d ∧ Below n w W' ∧ n ≤ W'.heap.size :=
  ⟨still hb h.1, still hb h.2.1, still hb h.2.2.1, still hb h.2.2.2.1, h.2.2.2.2.1.trans (hb.mono h.2.2.2.2.2), Nat.le_trans h.2.2.2.2.2 hb.size⟩
theorem wrap1 {x : Int} (h0 : 0 ≤ x) (h : x ≤ 1) : IntKind.i64.wrap (IntKind.i64.wrap x + 1) = x + 1 := by
  have e : IntKind.i64.wrap x = x := by rw [IntKind.wrap_i64]; omega
  rw [e, IntKind.wrap_i64]; omega
def limB (a b x r : Int) : Bool := decide (x ≤ 1) && chB (tmMin 1 (x + 1) + a) (andMax (tmMax 5 (x + 1)) b) r
set_option maxHeartbeats 4000000 in
theorem readLimits1_any (x r a b : Int) (B : Nat) (w : World) (x0 : 0 ≤ x) (hG : GlobN w) (a0 : 0 ≤ a) (a1 : a ≤ 1099511627776) (b0 : 0 ≤ b) (h0 : w.cell? ⟨B, 0, none⟩ = some (.int .i64 a)) (h1 : w.cell? ⟨B, 1, none⟩ = some (.int .i64 b)) :
    Calls Tryd.prog 137 #[.int .u8 x, .int .i64 r, .pointer (some ⟨B, 0, none⟩)] w fun e w' => e = .returned (.bool (limB a b x r)) ∧ Below w.heap.size w w' := by
  obtain ⟨g0, g1⟩ := hG
  by_cases hx : x ≤ 1
  · have hb0 : 0 ≤ tmMin 1 (x + 1) ∧ tmMin 1 (x + 1) ≤ 1099511627776 := by unfold tmMin capM; split <;> (try split) <;> omega
    have hb1 : 0 ≤ tmMax 5 (x + 1) := by unfold tmMax capM; repeat (split <;> try omega)
    have HB := hid (And.intro hb0 hb1)
    have HX := hid hx
    clear hb0 hb1
    go_enter Tryd.func137, Tryd.ntmps137
    go_upto_region 1 with (fail)
    have S0 : w.cell? ⟨3, 0, none⟩ = some (.int .i64 1) ∧ w.cell? ⟨3, 1, none⟩ = some (.int .i64 5) ∧ w.cell? ⟨B, 0, none⟩ = some (.int .i64 a) ∧ w.cell? ⟨B, 1, none⟩ = some (.int .i64 b) ∧ Below w.heap.size w w ∧ w.heap.size ≤ w.heap.size := ⟨g0, g1, h0, h1, Below.refl _ _, Nat.le_refl _⟩
    clear g0 g1 h0 h1
    refine wp_region_noPanic ?_
    refine wp_region_held_drew (S := (fun W => W.cell? ⟨3, 0, none⟩ = some (.int .i64 1) ∧ W.cell? ⟨3, 1, none⟩ = some (.int .i64 5) ∧ W.cell? ⟨B, 0, none⟩ = some (.int .i64 a) ∧ W.cell? ⟨B, 1, none⟩ = some (.int .i64 b) ∧ Below w.heap.size w W ∧ w.heap.size ≤ W.heap.size)) (by kernel_rfl) ?hSa (fun hHeld => ?goa)
    case hSa => exact keep4c (p1 := (3, 0)) (p2 := (3, 1)) (p3 := (B, 0)) (p4 := (B, 1)) S0 (Below.drew (Below.refl _ _))
    refine wpAnyH_take (i := 0) (oi := { dst := some 6, op := Go.Op.move (Go.Operand.tmp 0), type := 5, pos := "wtype.go:172", after := #[], guard := none }) (v := ?_) rfl (by kernel_rfl) (by kernel_rfl) (by kernel_rfl) (fun _ _ _ h => h) (Or.inl ⟨by rfl, ?hy0a⟩) (by assumption) ?rest0a
    case hy0a => (intro w hSw; (try dsimp only at hSw); go_simp; first | (with_reducible rfl) | (rw [if_neg (by omega)]) | skip)
    simp only [Act.put, List.setIfInBounds_toArray, List.set_cons_zero, List.set_cons_succ]
    refine wpAnyH_take (i := 1) (oi := { dst := some 7, op := Go.Op.binOp Go.BinOp.leq 5 (Go.Operand.tmp 6) (Go.Operand.const (Go.Value.int Go.IntKind.u8 1)) 5, type := 4, pos := "wtype.go:172", after := #[{ on := 0, ground := Go.Ground.data }], guard := none }) (v := ?_) rfl (by kernel_rfl) (by kernel_rfl) (by kernel_rfl) (fun _ _ _ h => h) (Or.inl ⟨by rfl, ?hy1a⟩) (by assumption) ?rest1a
    case hy1a => (intro w hSw; (try dsimp only at hSw); go_simp; first | (with_reducible rfl) | (rw [if_neg (by omega)]) | skip)
    simp only [Act.put, List.setIfInBounds_toArray, List.set_cons_zero, List.set_cons_succ]
    refine wpAnyH_take (i := 2) (oi := { dst := some 8, op := Go.Op.move (Go.Operand.tmp 7), type := 4, pos := "wtype.go:172", after := #[{ on := 1, ground := Go.Ground.data }], guard := none }) (v := ?_) rfl (by kernel_rfl) (by kernel_rfl) (by kernel_rfl) (fun _ _ _ h => h) (Or.inl ⟨by rfl, ?hy2a⟩) (by assumption) ?rest2a
    case hy2a => (intro w hSw; (try dsimp only at hSw); go_simp; first | (with_reducible rfl) | (rw [if_neg (by omega)]) | skip)
    simp only [Act.put, List.setIfInBounds_toArray, List.set_cons_zero, List.set_cons_succ]
    refine wpAnyH_take (i := 3) (oi := { dst := some 9, op := Go.Op.load 85 (Go.Operand.global 3), type := 85, pos := "wtype.go:172", after := #[{ on := 2, ground := Go.Ground.guard }], guard := some (2, true) }) (v := ?_) rfl (by kernel_rfl) (by kernel_rfl) (by kernel_rfl) (fun _ _ _ h => h) (Or.inl ⟨by rfl, ?hy3a⟩) (by assumption) ?rest3a
    case hy3a => (intro w hSw; (try dsimp only at hSw); go_simp; first | (with_reducible rfl) | (rw [if_neg (by omega)]) | skip)
    simp only [Act.put, List.setIfInBounds_toArray, List.set_cons_zero, List.set_cons_succ]
    refine wpAnyH_take (i := 4) (oi := { dst := some 10, op := Go.Op.move (Go.Operand.tmp 0), type := 5, pos := "wtype.go:172", after := #[{ on := 2, ground := Go.Ground.guard }], guard := some (2, true) }) (v := ?_) rfl (by kernel_rfl) (by kernel_rfl) (by kernel_rfl) (fun _ _ _ h => h) (Or.inl ⟨by rfl, ?hy4a⟩) (by assumption) ?rest4a
    case hy4a => (intro w hSw; (try dsimp only at hSw); go_simp; first | (with_reducible rfl) | (rw [if_neg (by omega)]) | skip)
    simp only [Act.put, List.setIfInBounds_toArray, List.set_cons_zero, List.set_cons_succ]
    refine wpAnyH_take (i := 5) (oi := { dst := some 11, op := Go.Op.convert 5 3 (Go.Operand.tmp 10), type := 3, pos := "wtype.go:172", after := #[{ on := 4, ground := Go.Ground.data }, { on := 2, ground := Go.Ground.guard }], guard := some (2, true) }) (v := ?_) rfl (by kernel_rfl) (by kernel_rfl) (by kernel_rfl) (fun _ _ _ h => h) (Or.inl ⟨by rfl, ?hy5a⟩) (by assumption) ?rest5a
    case hy5a => (intro w hSw; (try dsimp only at hSw); go_simp; first | (with_reducible rfl) | (rw [if_neg (by omega)]) | skip)
    simp only [Act.put, List.setIfInBounds_toArray, List.set_cons_zero, List.set_cons_succ]
    refine wpAnyH_take (i := 6) (oi := { dst := some 12, op := Go.Op.binOp Go.BinOp.add 3 (Go.Operand.tmp 11) (Go.Operand.const (Go.Value.int Go.IntKind.i64 1)) 3, type := 3, pos := "wtype.go:172", after := #[{ on := 5, ground := Go.Ground.data }, { on := 2, ground := Go.Ground.guard }], guard := some (2, true) }) (v := ?_) rfl (by kernel_rfl) (by kernel_rfl) (by kernel_rfl) (fun _ _ _ h => h) (Or.inl ⟨by rfl, ?hy6a⟩) (by assumption) ?rest6a
    case hy6a => (intro w hSw; (try dsimp only at hSw); go_simp; first | (with_reducible rfl) | (rw [if_neg (by omega)]) | skip)
    simp only [Act.put, List.setIfInBounds_toArray, List.set_cons_zero, List.set_cons_succ]
    refine wpAnyH_take (i := 8) (oi := { dst := some 14, op := Go.Op.load 85 (Go.Operand.tmp 2), type := 85, pos := "wtype.go:172", after := #[{ on := 2, ground := Go.Ground.guard }], guard := some (2, true) }) (v := ?_) rfl (by kernel_rfl) (by kernel_rfl) (by kernel_rfl) (fun _ _ _ h => h) (Or.inl ⟨by rfl, ?hy8a⟩) (by assumption) ?rest8a
    case hy8a => (intro w hSw; (try dsimp only at hSw); go_simp; first | (with_reducible rfl) | (rw [if_neg (by omega)]) | skip)
    simp only [Act.put, List.setIfInBounds_toArray, List.set_cons_zero, List.set_cons_succ]
    refine wpAnyH_take (i := 10) (oi := { dst := some 16, op := Go.Op.move (Go.Operand.tmp 1), type := 3, pos := "wtype.go:172", after := #[{ on := 2, ground := Go.Ground.guard }], guard := some (2, true) }) (v := ?_) rfl (by kernel_rfl) (by kernel_rfl) (by kernel_rfl) (fun _ _ _ h => h) (Or.inl ⟨by rfl, ?hy10a⟩) (by assumption) ?rest10a
    case hy10a => (intro w hSw; (try dsimp only at hSw); go_simp; first | (with_reducible rfl) | (rw [if_neg (by omega)]) | skip)
    simp only [Act.put, List.setIfInBounds_toArray, List.set_cons_zero, List.set_cons_succ]
    refine wpAnyH_ready (rs := [7]) (by kernel_rfl) (by simp) ?_
    refine AllReadyH.cons (o := { dst := some 13, op := Go.Op.call { callee := Go.Callee.value (Go.Operand.func 138), args := #[Go.Operand.tmp 9, Go.Operand.tmp 12], argTypes := #[85, 3] }, type := 85, pos := "wtype.go:172", after := #[{ on := 3, ground := Go.Ground.data }, { on := 6, ground := Go.Ground.data }, { on := 2, ground := Go.Ground.chain }, { on := 2, ground := Go.Ground.guard }], guard := some (2, true) }) rfl (fun K hK => ?_) AllReadyH.nil
    go_simp
    rw [wrap1 x0 HX.out]; go_at_call 138; (with_reducible refine (tms_any 1 5 (x + 1) _ (by omega) (by omega) (by omega) (by omega) (by have := HX.out; omega)).mono ?_); rintro e w2 ⟨rfl, hb2⟩
    refine hK.out _ _ ?_ (fun hHeld => ?_)
    · (try dsimp only); exact keep4c (p1 := (3, 0)) (p2 := (3, 1)) (p3 := (B, 0)) (p4 := (B, 1)) hHeld (by assumption)
    clear hK K
    try simp only [Act.put, List.setIfInBounds_toArray, List.set_cons_zero, List.set_cons_succ]
    refine wpAnyH_ready (rs := [9]) (by kernel_rfl) (by simp) ?_
    refine AllReadyH.cons (o := { dst := some 15, op := Go.Op.call { callee := Go.Callee.value (Go.Operand.func 93), args := #[Go.Operand.tmp 13, Go.Operand.tmp 14], argTypes := #[85, 85] }, type := 85, pos := "wtype.go:172", after := #[{ on := 7, ground := Go.Ground.data }, { on := 8, ground := Go.Ground.data }, { on := 7, ground := Go.Ground.chain }, { on := 2, ground := Go.Ground.guard }], guard := some (2, true) }) rfl (fun K hK => ?_) AllReadyH.nil
    go_simp
    go_at_call 93; (with_reducible refine (and_any _ _ _ _ _ HB.out.1.1 (by have := HB.out.1.2; omega) a0 (by omega) HB.out.2 b0).mono ?_); rintro e w3 ⟨rfl, hb3⟩
    refine hK.out _ _ ?_ (fun hHeld => ?_)
    · (try dsimp only); exact keep4c (p1 := (3, 0)) (p2 := (3, 1)) (p3 := (B, 0)) (p4 := (B, 1)) hHeld (by assumption)
    clear hK K
    try simp only [Act.put, List.setIfInBounds_toArray, List.set_cons_zero, List.set_cons_succ]
    refine wpAnyH_ready (rs := [11]) (by kernel_rfl) (by simp) ?_
    refine AllReadyH.cons (o := { dst := some 17, op := Go.Op.call { callee := Go.Callee.value (Go.Operand.func 96), args := #[Go.Operand.tmp 15, Go.Operand.tmp 16], argTypes := #[85, 3] }, type := 4, pos := "wtype.go:172", after := #[{ on := 9, ground := Go.Ground.data }, { on := 10, ground := Go.Ground.data }, { on := 9, ground := Go.Ground.chain }, { on := 2, ground := Go.Ground.guard }], guard := some (2, true) }) rfl (fun K hK => ?_) AllReadyH.nil
    go_simp
    go_at_call 96; (with_reducible refine (whas_any _ _ _ _).mono ?_); rintro e w4 ⟨rfl, hb4⟩
    refine hK.out _ _ ?_ (fun hHeld => ?_)
    · (try dsimp only); exact keep4c (p1 := (3, 0)) (p2 := (3, 1)) (p3 := (B, 0)) (p4 := (B, 1)) hHeld (by assumption)
    clear hK K
    try simp only [Act.put, List.setIfInBounds_toArray, List.set_cons_zero, List.set_cons_succ]
    refine wpAnyH_take (i := 12) (oi := { dst := some 18, op := Go.Op.pick (Go.Operand.tmp 8) (Go.Operand.tmp 17) (Go.Operand.const (Go.Value.bool false)), type := 4, pos := "wtype.go:172", after := #[{ on := 2, ground := Go.Ground.data }, { on := 11, ground := Go.Ground.data }], guard := none }) (v := ?_) rfl (by kernel_rfl) (by kernel_rfl) (by kernel_rfl) (fun _ _ _ h => h) (Or.inl ⟨by rfl, ?hy12a⟩) (by assumption) ?rest12a
    case hy12a => (intro w hSw; (try dsimp only at hSw); go_simp; first | (with_reducible rfl) | (rw [if_neg (by omega)]) | skip)
    simp only [Act.put, List.setIfInBounds_toArray, List.set_cons_zero, List.set_cons_succ]
    refine wpAnyH_take (i := 13) (oi := { dst := some 5, op := Go.Op.assign (Go.Operand.tmp 18), type := 4, pos := "wtype.go:172", after := #[{ on := 12, ground := Go.Ground.data }, { on := 11, ground := Go.Ground.chain }, { on := 0, ground := Go.Ground.phase }, { on := 1, ground := Go.Ground.phase }, { on := 2, ground := Go.Ground.phase }, { on := 3, ground := Go.Ground.phase }, { on := 4, ground := Go.Ground.phase }, { on := 5, ground := Go.Ground.phase }, { on := 6, ground := Go.Ground.phase }, { on := 7, ground := Go.Ground.phase }, { on := 8, ground := Go.Ground.phase }, { on := 9, ground := Go.Ground.phase }, { on := 10, ground := Go.Ground.phase }, { on := 11, ground := Go.Ground.phase }, { on := 12, ground := Go.Ground.phase }], guard := none }) (v := ?_) rfl (by kernel_rfl) (by kernel_rfl) (by kernel_rfl) (fun _ _ _ h => h) (Or.inl ⟨by rfl, ?hy13a⟩) (by assumption) ?rest13a
    case hy13a => (intro w hSw; (try dsimp only at hSw); go_simp; first | (with_reducible rfl) | (rw [if_neg (by omega)]) | skip)
    simp only [Act.put, List.setIfInBounds_toArray, List.set_cons_zero, List.set_cons_succ]
    refine wpAnyH_done (by kernel_rfl) ?_ _
    refine NoPanic.normal ?_
    go_wp2_with fail
    go_ret
    exact ⟨ret_bool (by rw [limB, decide_eq_true HX.out]; rfl), hHeld.2.2.2.2.1⟩
  · go_enter Tryd.func137, Tryd.ntmps137
    go_upto_region 1 with (fail)
    refine wp_region_noPanic ?_
    refine wp_region_held_drew (S := (fun W => Below w.heap.size w W)) (by kernel_rfl) ?hSb (fun hHeld => ?gob)
    case hSb => exact Below.drew (Below.refl _ _)
    refine wpAnyH_take (i := 0) (oi := { dst := some 6, op := Go.Op.move (Go.Operand.tmp 0), type := 5, pos := "wtype.go:172", after := #[], guard := none }) (v := ?_) rfl (by kernel_rfl) (by kernel_rfl) (by kernel_rfl) (fun _ _ _ h => h) (Or.inl ⟨by rfl, ?hy0b⟩) (by assumption) ?rest0b
    case hy0b => (intro w hSw; (try dsimp only at hSw); go_simp; first | (with_reducible rfl) | (rw [if_neg (by omega)]) | skip)
    simp only [Act.put, List.setIfInBounds_toArray, List.set_cons_zero, List.set_cons_succ]
    refine wpAnyH_take (i := 1) (oi := { dst := some 7, op := Go.Op.binOp Go.BinOp.leq 5 (Go.Operand.tmp 6) (Go.Operand.const (Go.Value.int Go.IntKind.u8 1)) 5, type := 4, pos := "wtype.go:172", after := #[{ on := 0, ground := Go.Ground.data }], guard := none }) (v := ?_) rfl (by kernel_rfl) (by kernel_rfl) (by kernel_rfl) (fun _ _ _ h => h) (Or.inl ⟨by rfl, ?hy1b⟩) (by assumption) ?rest1b
    case hy1b => (intro w hSw; (try dsimp only at hSw); go_simp; first | (with_reducible rfl) | (rw [if_neg (by omega)]) | skip)
    simp only [Act.put, List.setIfInBounds_toArray, List.set_cons_zero, List.set_cons_succ]
    refine wpAnyH_take (i := 2) (oi := { dst := some 8, op := Go.Op.move (Go.Operand.tmp 7), type := 4, pos := "wtype.go:172", after := #[{ on := 1, ground := Go.Ground.data }], guard := none }) (v := ?_) rfl (by kernel_rfl) (by kernel_rfl) (by kernel_rfl) (fun _ _ _ h => h) (Or.inl ⟨by rfl, ?hy2b⟩) (by assumption) ?rest2b
    case hy2b => (intro w hSw; (try dsimp only at hSw); go_simp; first | (with_reducible rfl) | (rw [if_neg (by omega)]) | skip)
    simp only [Act.put, List.setIfInBounds_toArray, List.set_cons_zero, List.set_cons_succ]
    refine wpAnyH_take (i := 3) (oi := { dst := some 9, op := Go.Op.load 85 (Go.Operand.global 3), type := 85, pos := "wtype.go:172", after := #[{ on := 2, ground := Go.Ground.guard }], guard := some (2, true) }) (v := undef) rfl (by kernel_rfl) (by kernel_rfl) (by kernel_rfl) (fun _ _ _ h => h) (Or.inr ⟨by rfl, rfl⟩) (by assumption) ?_
    simp only [Act.put, List.setIfInBounds_toArray, List.set_cons_zero, List.set_cons_succ]
    refine wpAnyH_take (i := 4) (oi := { dst := some 10, op := Go.Op.move (Go.Operand.tmp 0), type := 5, pos := "wtype.go:172", after := #[{ on := 2, ground := Go.Ground.guard }], guard := some (2, true) }) (v := undef) rfl (by kernel_rfl) (by kernel_rfl) (by kernel_rfl) (fun _ _ _ h => h) (Or.inr ⟨by rfl, rfl⟩) (by assumption) ?_
    simp only [Act.put, List.setIfInBounds_toArray, List.set_cons_zero, List.set_cons_succ]
    refine wpAnyH_take (i := 5) (oi := { dst := some 11, op := Go.Op.convert 5 3 (Go.Operand.tmp 10), type := 3, pos := "wtype.go:172", after := #[{ on := 4, ground := Go.Ground.data }, { on := 2, ground := Go.Ground.guard }], guard := some (2, true) }) (v := undef) rfl (by kernel_rfl) (by kernel_rfl) (by kernel_rfl) (fun _ _ _ h => h) (Or.inr ⟨by rfl, rfl⟩) (by assumption) ?_
    simp only [Act.put, List.setIfInBounds_toArray, List.set_cons_zero, List.set_cons_succ]
    refine wpAnyH_take (i := 6) (oi := { dst := some 12, op := Go.Op.binOp Go.BinOp.add 3 (Go.Operand.tmp 11) (Go.Operand.const (Go.Value.int Go.IntKind.i64 1)) 3, type := 3, pos := "wtype.go:172", after := #[{ on := 5, ground := Go.Ground.data }, { on := 2, ground := Go.Ground.guard }], guard := some (2, true) }) (v := undef) rfl (by kernel_rfl) (by kernel_rfl) (by kernel_rfl) (fun _ _ _ h => h) (Or.inr ⟨by rfl, rfl⟩) (by assumption) ?_
    simp only [Act.put, List.setIfInBounds_toArray, List.set_cons_zero, List.set_cons_succ]
    refine wpAnyH_take (i := 7) (oi := { dst := some 13, op := Go.Op.call { callee := Go.Callee.value (Go.Operand.func 138), args := #[Go.Operand.tmp 9, Go.Operand.tmp 12], argTypes := #[85, 3] }, type := 85, pos := "wtype.go:172", after := #[{ on := 3, ground := Go.Ground.data }, { on := 6, ground := Go.Ground.data }, { on := 2, ground := Go.Ground.chain }, { on := 2, ground := Go.Ground.guard }], guard := some (2, true) }) (v := undef) rfl (by kernel_rfl) (by kernel_rfl) (by kernel_rfl) (fun _ _ _ h => h) (Or.inr ⟨by rfl, rfl⟩) (by assumption) ?_
    simp only [Act.put, List.setIfInBounds_toArray, List.set_cons_zero, List.set_cons_succ]
    refine wpAnyH_take (i := 8) (oi := { dst := some 14, op := Go.Op.load 85 (Go.Operand.tmp 2), type := 85, pos := "wtype.go:172", after := #[{ on := 2, ground := Go.Ground.guard }], guard := some (2, true) }) (v := undef) rfl (by kernel_rfl) (by kernel_rfl) (by kernel_rfl) (fun _ _ _ h => h) (Or.inr ⟨by rfl, rfl⟩) (by assumption) ?_
    simp only [Act.put, List.setIfInBounds_toArray, List.set_cons_zero, List.set_cons_succ]
    refine wpAnyH_take (i := 9) (oi := { dst := some 15, op := Go.Op.call { callee := Go.Callee.value (Go.Operand.func 93), args := #[Go.Operand.tmp 13, Go.Operand.tmp 14], argTypes := #[85, 85] }, type := 85, pos := "wtype.go:172", after := #[{ on := 7, ground := Go.Ground.data }, { on := 8, ground := Go.Ground.data }, { on := 7, ground := Go.Ground.chain }, { on := 2, ground := Go.Ground.guard }], guard := some (2, true) }) (v := undef) rfl (by kernel_rfl) (by kernel_rfl) (by kernel_rfl) (fun _ _ _ h => h) (Or.inr ⟨by rfl, rfl⟩) (by assumption) ?_
    simp only [Act.put, List.setIfInBounds_toArray, List.set_cons_zero, List.set_cons_succ]
    refine wpAnyH_take (i := 10) (oi := { dst := some 16, op := Go.Op.move (Go.Operand.tmp 1), type := 3, pos := "wtype.go:172", after := #[{ on := 2, ground := Go.Ground.guard }], guard := some (2, true) }) (v := undef) rfl (by kernel_rfl) (by kernel_rfl) (by kernel_rfl) (fun _ _ _ h => h) (Or.inr ⟨by rfl, rfl⟩) (by assumption) ?_
    simp only [Act.put, List.setIfInBounds_toArray, List.set_cons_zero, List.set_cons_succ]
    refine wpAnyH_take (i := 11) (oi := { dst := some 17, op := Go.Op.call { callee := Go.Callee.value (Go.Operand.func 96), args := #[Go.Operand.tmp 15, Go.Operand.tmp 16], argTypes := #[85, 3] }, type := 4, pos := "wtype.go:172", after := #[{ on := 9, ground := Go.Ground.data }, { on := 10, ground := Go.Ground.data }, { on := 9, ground := Go.Ground.chain }, { on := 2, ground := Go.Ground.guard }], guard := some (2, true) }) (v := undef) rfl (by kernel_rfl) (by kernel_rfl) (by kernel_rfl) (fun _ _ _ h => h) (Or.inr ⟨by rfl, rfl⟩) (by assumption) ?_
    simp only [Act.put, List.setIfInBounds_toArray, List.set_cons_zero, List.set_cons_succ]
    refine wpAnyH_take (i := 12) (oi := { dst := some 18, op := Go.Op.pick (Go.Operand.tmp 8) (Go.Operand.tmp 17) (Go.Operand.const (Go.Value.bool false)), type := 4, pos := "wtype.go:172", after := #[{ on := 2, ground := Go.Ground.data }, { on := 11, ground := Go.Ground.data }], guard := none }) (v := ?_) rfl (by kernel_rfl) (by kernel_rfl) (by kernel_rfl) (fun _ _ _ h => h) (Or.inl ⟨by rfl, ?hy12b⟩) (by assumption) ?rest12b
    case hy12b => (intro w hSw; (try dsimp only at hSw); go_simp; first | (with_reducible rfl) | (rw [if_neg (by omega)]) | skip)
    simp only [Act.put, List.setIfInBounds_toArray, List.set_cons_zero, List.set_cons_succ]
    refine wpAnyH_take (i := 13) (oi := { dst := some 5, op := Go.Op.assign (Go.Operand.tmp 18), type := 4, pos := "wtype.go:172", after := #[{ on := 12, ground := Go.Ground.data }, { on := 11, ground := Go.Ground.chain }, { on := 0, ground := Go.Ground.phase }, { on := 1, ground := Go.Ground.phase }, { on := 2, ground := Go.Ground.phase }, { on := 3, ground := Go.Ground.phase }, { on := 4, ground := Go.Ground.phase }, { on := 5, ground := Go.Ground.phase }, { on := 6, ground := Go.Ground.phase }, { on := 7, ground := Go.Ground.phase }, { on := 8, ground := Go.Ground.phase }, { on := 9, ground := Go.Ground.phase }, { on := 10, ground := Go.Ground.phase }, { on := 11, ground := Go.Ground.phase }, { on := 12, ground := Go.Ground.phase }], guard := none }) (v := ?_) rfl (by kernel_rfl) (by kernel_rfl) (by kernel_rfl) (fun _ _ _ h => h) (Or.inl ⟨by rfl, ?hy13b⟩) (by assumption) ?rest13b
    case hy13b => (intro w hSw; (try dsimp only at hSw); go_simp; first | (with_reducible rfl) | (rw [if_neg (by omega)]) | skip)
    simp only [Act.put, List.setIfInBounds_toArray, List.set_cons_zero, List.set_cons_succ]
    refine wpAnyH_done (by kernel_rfl) ?_ _
    refine NoPanic.normal ?_
    go_wp2_with fail
    go_ret
    exact ⟨ret_bool (by rw [limB, decide_eq_false (by omega)]; rfl), hHeld⟩
end Go.Proofs.YtiohiiekaofkbaaDoor

/- The readers of wtype: a byte that may be, a value type. -/
namespace Go.Proofs.YtiohiiekaofkbaaDoor
set_option linter.unusedVariables false
set_option linter.unusedSimpArgs false
open Go.RowKit

def byteM (m : Int → Int → Bool) (l : List Int) (p lim : Int) : Res := match nextR l p lim with | .error s => .error s | .ok x => if m x (rest (p + 1) lim) then .ok (.int .u8 x, p + 1) else .error (p, 2)
theorem byte_walk (g : Nat) (A : Option Addr) (c : Nat) (l : List Int) (p lim : Int) (w : World) (k : Nat) (caps : Array Value) (m : Int → Int → Bool) (hE : Enters k) (h : CB g A c l p lim w)
    (hm : ∀ x r W, 0 ≤ x → x < 256 → Rd g w W → Calls Tryd.prog k (#[.int .u8 x, .int .i64 r] ++ caps) W (fun e w' => e = .returned (.bool (m x r)) ∧ Below W.heap.size W w')) :
    Calls Tryd.prog 94 #[.pointer (some ⟨g, 0, none⟩), .func (.func k) #[] caps] w (Post g A c l lim w (byteM m l p lim)) := by
  rcases hx : nextR l p lim with s | x
  · have e : byteM m l p lim = .error s := by rw [byteM, hx]
    rw [e]
    exact byte_err g A c l p lim w k caps h s hx
  · obtain ⟨b0, b1⟩ := h.b8 x (next_mem hx).1
    rcases hb : m x (rest (p + 1) lim) with _ | _
    · have e : byteM m l p lim = .error (p, 2) := by rw [byteM, hx]; simp [hb]
      rw [e]
      exact byte_not g A c l p lim w k caps hE h x hx (fun w1 hw1 W hz hW => by
        have := hm x (rest (p + 1) lim) W b0 b1 (hw1.trans (grown_of_below hW _)); rwa [hb] at this)
    · have e : byteM m l p lim = .ok (.int .u8 x, p + 1) := by rw [byteM, hx]; simp [hb]
      rw [e]
      exact byte_yes g A c l p lim w k caps hE h x hx (fun w1 hw1 W hz hW => by
        have := hm x (rest (p + 1) lim) W b0 b1 (hw1.trans (grown_of_below hW _)); rwa [hb] at this)
set_option maxHeartbeats 1000000 in
theorem readVal_walk (g : Nat) (A : Option Addr) (c : Nat) (l : List Int) (p lim : Int) (w : World) (h : CB g A c l p lim w) :
    Calls Tryd.prog 98 #[.pointer (some ⟨g, 0, none⟩)] w (Post g A c l lim w (byteM (fun x _ => valB x) l p lim)) := by
  have HB := hid (byte_walk g A c l p lim w 144 #[] (fun x _ => valB x) (enters Tryd.func144 (by kernel_rfl) rfl) h (fun x r W _ _ _ => readVal1_any x r W))
  rcases hr : byteM (fun x _ => valB x) l p lim with s | ⟨v, p'⟩
  · rw [hr] at HB
    clear hr
    go_enter Tryd.func98, Tryd.ntmps98
    go_wp2_with (first | (go_at_call 94; refine HB.out.mono ?_; rintro e w1 ⟨rfl, HG⟩))
    exact ⟨rfl, rfl, HG⟩
  · rw [hr] at HB
    clear hr
    go_enter Tryd.func98, Tryd.ntmps98
    go_wp2_with (first | (go_at_call 94; refine HB.out.mono ?_; rintro e w1 ⟨rfl, HC, HG⟩; have HC := hid HC))
    go_ret
    exact ⟨rfl, HC.out, HG⟩
end Go.Proofs.YtiohiiekaofkbaaDoor

/- wtype's ReadGlobal (does not build yet, unless NOTES says so). -/
namespace Go.Proofs.YtiohiiekaofkbaaDoor
set_option linter.unusedVariables false
set_option linter.unusedSimpArgs false
open Go.RowKit

theorem Rd.frozen {g : Nat} {w W : World} (h : Rd g w W) {B i : Nat} (hne : B ≠ g) (hB : B < w.heap.size) : W.frozen? ⟨B, i, none⟩ = w.frozen? ⟨B, i, none⟩ :=
  World.frozen?_of_block (w := w) (h.block B hB (fun e => hne (Option.some.inj e)))
/-- a new block of two cells behind what changes only the cursor -/
theorem Rd.two {g : Nat} {w w1 : World} {a b : Value} {t : TypeId} (hg : g < w.heap.size) (h : Rd g (w.alloc (.cells #[a, b] t)) w1) :
    w1.cell? ⟨w.heap.size, 0, none⟩ = some a ∧ w1.cell? ⟨w.heap.size, 1, none⟩ = some b ∧ w1.frozen? ⟨w.heap.size, 0, none⟩ = false ∧ w1.frozen? ⟨w.heap.size, 1, none⟩ = false := by
  have hne : w.heap.size ≠ g := by omega
  exact ⟨h.cell hne (by go_simp), h.cell hne (by go_simp), (h.frozen hne (by simp)).trans (by go_simp), (h.frozen hne (by simp)).trans (by go_simp)⟩
/-- two stores into blocks above B -/
theorem grown_two {g B : Nat} {w W : World} (h : Rd g w W) (hB : w.heap.size ≤ B) (u v : Value) : Rd g w ((W.setCell ⟨B, 0, none⟩ u).setCell ⟨B, 1, none⟩ v) :=
  ⟨h.os, h.tape, h.output, by simpa using h.size, fun k hk hne => by
    rw [heap_setCell_other _ _ _ _ (show k ≠ B by omega), heap_setCell_other _ _ _ _ (show k ≠ B by omega)]; exact h.block k hk hne⟩
theorem Cu.two {g B : Nat} {sl : Value} {p lim : Int} {W : World} (h : Cu g sl p lim W) (hne : B ≠ g) (u v : Value) : Cu g sl p lim ((W.setCell ⟨B, 0, none⟩ u).setCell ⟨B, 1, none⟩ v) := by
  have hc : ∀ i, ((W.setCell ⟨B, 0, none⟩ u).setCell ⟨B, 1, none⟩ v).cell? ⟨g, i, none⟩ = W.cell? ⟨g, i, none⟩ := fun i => by
    rw [World.cell?_setCell_far _ _ _ _ (fun e => hne e), World.cell?_setCell_far _ _ _ _ (fun e => hne e)]
  have hf : ∀ i, ((W.setCell ⟨B, 0, none⟩ u).setCell ⟨B, 1, none⟩ v).frozen? ⟨g, i, none⟩ = W.frozen? ⟨g, i, none⟩ := fun i => by
    rw [World.frozen?_setCell, World.frozen?_setCell]
  exact ⟨(hc 0).trans h.c0, (hc 1).trans h.c1, (hc 2).trans h.c2, (hf 1).trans h.f1, (hf 2).trans h.f2⟩
set_option maxHeartbeats 2000000 in
theorem readGlobal_ok (g : Nat) (A : Option Addr) (c : Nat) (l : List Int) (p lim : Int) (w : World) (v x : Int) (h : CB g A c l p lim w) (hv : byteM (fun x _ => valB x) l p lim = .ok (.int .u8 v, p + 1)) (hx : byteM (fun x _ => decide (x ≤ 1)) l (p + 1) lim = .ok (.int .u8 x, p + 2)) :
    Calls Tryd.prog 48 #[.pointer (some ⟨g, 0, none⟩)] w (Post g A c l lim w (.ok (.agg #[.int .u8 v, .bool (decide (x = 1))], p + 2))) := by
  have HV := hid (fun W (hW : Below w.heap.size w W) => readVal_walk g A c l p lim W (h.below hW))
  have HX := hid (fun W (hW : CB g A c l (p + 1) lim W) => byte_walk g A c l (p + 1) lim W 99 #[] (fun x _ => decide (x ≤ 1)) (enters Tryd.func99 (by kernel_rfl) rfl) hW (fun x r W _ _ _ => readGlobal1_any x r W))
  rw [hv] at HV
  rw [hx] at HX
  clear hv hx
  have HL := hid h.cu.lt
  have HCh := hid h
  go_enter Tryd.func48, Tryd.ntmps48
  go_wp2_with (first | (go_at_call 98; refine (HV.out _ (by repeat (first | exact Below.refl _ _ | assumption | refine Below.alloc ?_ (by first | exact Nat.le_refl _ | (simp; done) | (simp; omega) | omega) _ | refine Below.drew ?_ | refine Below.setCell ?_ (by first | exact Nat.le_refl _ | (simp; done) | (simp; omega) | omega) _ | refine below_call ?_ (by assumption) (by first | exact Nat.le_refl _ | (simp; done) | (simp; omega) | omega)))).mono ?_; rintro e w1 ⟨rfl, HC, HG⟩; have HC := hid HC) | (go_at_call 94; refine (HX.out _ HC.out).mono ?_; rintro e w2 ⟨rfl, HC2, HG2⟩; have HC2 := hid HC2; obtain ⟨k0, k1, k2, k3⟩ := Rd.two HL.out (HG.trans HG2)))
  have hne : w.heap.size ≠ g := by have := HL.out; omega
  have hR : Rd g w w2 := (grown_of_below ((Below.refl w.heap.size w).alloc (Nat.le_refl _) _) _).trans (HG.trans HG2)
  refine bodyPost_ret (v := .agg #[.int .u8 v, .bool (decide (x = 1))]) ?_ rfl ⟨rfl, HCh.out.rd (grown_two hR (Nat.le_refl _) _ _) (HC2.out.cu.two hne _ _) HC2.out.p0 HC2.out.p1 HC2.out.l2, grown_two hR (Nat.le_refl _) _ _⟩
  simp [results, Tryd.results48, go_sem, k0, k1, k2, k3]
  rw [Bool.eq_iff_iff]; simp
end Go.Proofs.YtiohiiekaofkbaaDoor

/- wtype's wants as they are made: Index, List. -/
namespace Go.Proofs.YtiohiiekaofkbaaDoor
set_option linter.unusedVariables false
set_option linter.unusedSimpArgs false
open Go.RowKit

theorem index_walk (a b : Int) (w : World) : Calls Tryd.prog 139 #[.agg #[.int .i64 a, .int .i64 b]] w (fun e w' => e = .returned (.func (.func 163) #[] #[.pointer (some ⟨w.heap.size, 0, none⟩)]) ∧ Below w.heap.size w w' ∧ w.heap.size < w'.heap.size ∧ w'.cell? ⟨w.heap.size, 0, none⟩ = some (.int .i64 a) ∧ w'.cell? ⟨w.heap.size, 1, none⟩ = some (.int .i64 b)) := by
  have hmf : ∀ (fn : Fn) (first cap : Array Value) (w : World), (Instr.makeFunc fn first cap).run Tryd.prog w = .ok (.func fn first cap) w := fun _ _ _ _ => rfl
  go_enter Tryd.func139, Tryd.ntmps139
  go_wp2
  go_ret
  exact ⟨rfl, (by repeat (first | exact Below.refl _ _ | assumption | refine Below.alloc ?_ (by first | exact Nat.le_refl _ | (simp; done) | (simp; omega) | omega) _ | refine Below.drew ?_ | refine Below.setCell ?_ (by first | exact Nat.le_refl _ | (simp; done) | (simp; omega) | omega) _ | refine below_call ?_ (by assumption) (by first | exact Nat.le_refl _ | (simp; done) | (simp; omega) | omega))), by simp, by go_simp, by go_simp⟩
theorem list_walk (a b c d : Int) (w : World) : Calls Tryd.prog 143 #[.agg #[.int .i64 a, .int .i64 b], .agg #[.int .i64 c, .int .i64 d]] w (fun e w' => e = .returned (.func (.func 164) #[] #[.pointer (some ⟨w.heap.size, 0, none⟩), .pointer (some ⟨w.heap.size + 1, 0, none⟩)]) ∧ Below w.heap.size w w' ∧ w.heap.size + 1 < w'.heap.size ∧ w'.cell? ⟨w.heap.size, 0, none⟩ = some (.int .i64 a) ∧ w'.cell? ⟨w.heap.size, 1, none⟩ = some (.int .i64 b) ∧ w'.cell? ⟨w.heap.size + 1, 0, none⟩ = some (.int .i64 c) ∧ w'.cell? ⟨w.heap.size + 1, 1, none⟩ = some (.int .i64 d)) := by
  have hmf : ∀ (fn : Fn) (first cap : Array Value) (w : World), (Instr.makeFunc fn first cap).run Tryd.prog w = .ok (.func fn first cap) w := fun _ _ _ _ => rfl
  go_enter Tryd.func143, Tryd.ntmps143
  go_wp2
  go_ret
  exact ⟨rfl, (by repeat (first | exact Below.refl _ _ | assumption | refine Below.alloc ?_ (by first | exact Nat.le_refl _ | (simp; done) | (simp; omega) | omega) _ | refine Below.drew ?_ | refine Below.setCell ?_ (by first | exact Nat.le_refl _ | (simp; done) | (simp; omega) | omega) _ | refine below_call ?_ (by assumption) (by first | exact Nat.le_refl _ | (simp; done) | (simp; omega) | omega))), by simp, by go_simp, by go_simp, by go_simp, by go_simp⟩
end Go.Proofs.YtiohiiekaofkbaaDoor

/- wtype's ReadLimits. -/
namespace Go.Proofs.YtiohiiekaofkbaaDoor
set_option linter.unusedVariables false
set_option linter.unusedSimpArgs false
open Go.RowKit

theorem Rd.of_below {g : Nat} {w W : World} (h : Below w.heap.size w W) : Rd g w W := grown_of_below h _
theorem GlobN.rd {g : Nat} {w W : World} (h : GlobN w) (hne : 3 ≠ g) (hg : Rd g w W) : GlobN W := ⟨hg.cell hne h.c0, hg.cell hne h.c1⟩
set_option maxHeartbeats 2000000 in
theorem readLimits_err (g : Nat) (A : Option Addr) (c : Nat) (l : List Int) (p lim : Int) (w : World) (a b : Int) (s : Int × Int) (h : CB g A c l p lim w) (hG : GlobN w) (hgl : 3 ≠ g) (a0 : 0 ≤ a) (a1 : a ≤ 1099511627776) (b0 : 0 ≤ b)
    (hx : byteM (limB a b) l p lim = .error s) :
    Calls Tryd.prog 88 #[.pointer (some ⟨g, 0, none⟩), .agg #[.int .i64 a, .int .i64 b]] w (Post g A c l lim w (.error s)) := by
  have HX := hid (fun W (hW : Rd g w W) (hC : CB g A c l p lim W) B (hne : B ≠ g) (h0 : W.cell? ⟨B, 0, none⟩ = some (.int .i64 a)) (h1 : W.cell? ⟨B, 1, none⟩ = some (.int .i64 b)) => byte_walk g A c l p lim W 137 #[.pointer (some ⟨B, 0, none⟩)] (limB a b) (enters Tryd.func137 (by kernel_rfl) rfl) hC (fun x r W' x0 x1 hW' => readLimits1_any x r a b B W' x0 (hG.rd hgl (hW.trans hW')) a0 a1 b0 (hW'.cell hne h0) (hW'.cell hne h1)))
  rw [hx] at HX
  have HC := hid h
  have hlt := h.cu.lt
  clear hx h hG
  have hmf : ∀ (fn : Fn) (first cap : Array Value) (w : World), (Instr.makeFunc fn first cap).run Tryd.prog w = .ok (.func fn first cap) w := fun _ _ _ _ => rfl
  go_enter Tryd.func88, Tryd.ntmps88
  go_wp2_with (first | (go_at_call 94; refine (HX.out _ (Rd.of_below (by repeat (first | exact Below.refl _ _ | assumption | refine Below.alloc ?_ (by first | exact Nat.le_refl _ | (simp; done) | (simp; omega) | omega) _ | refine Below.drew ?_ | refine Below.setCell ?_ (by first | exact Nat.le_refl _ | (simp; done) | (simp; omega) | omega) _ | refine below_call ?_ (by assumption) (by first | exact Nat.le_refl _ | (simp; done) | (simp; omega) | omega)))) (HC.out.below (by repeat (first | exact Below.refl _ _ | assumption | refine Below.alloc ?_ (by first | exact Nat.le_refl _ | (simp; done) | (simp; omega) | omega) _ | refine Below.drew ?_ | refine Below.setCell ?_ (by first | exact Nat.le_refl _ | (simp; done) | (simp; omega) | omega) _ | refine below_call ?_ (by assumption) (by first | exact Nat.le_refl _ | (simp; done) | (simp; omega) | omega)))) _ (by omega) (by go_simp) (by go_simp)).mono ?_; rintro e w1 ⟨rfl, HG⟩))
  exact ⟨rfl, rfl, (Rd.of_below (by repeat (first | exact Below.refl _ _ | assumption | refine Below.alloc ?_ (by first | exact Nat.le_refl _ | (simp; done) | (simp; omega) | omega) _ | refine Below.drew ?_ | refine Below.setCell ?_ (by first | exact Nat.le_refl _ | (simp; done) | (simp; omega) | omega) _ | refine below_call ?_ (by assumption) (by first | exact Nat.le_refl _ | (simp; done) | (simp; omega) | omega)))).trans HG⟩
end Go.Proofs.YtiohiiekaofkbaaDoor

/- wtype's ReadLimits, the ways behind the first byte. -/
namespace Go.Proofs.YtiohiiekaofkbaaDoor
set_option linter.unusedVariables false
set_option linter.unusedSimpArgs false
open Go.RowKit

theorem keepR {g : Nat} {w0 W W' : World} {p1 p2 p3 p4 : Nat × Nat} {a b c d : Value} (h : W.cell? ⟨p1.1, p1.2, none⟩ = some a ∧ W.cell? ⟨p2.1, p2.2, none⟩ = some b ∧ W.cell? ⟨p3.1, p3.2, none⟩ = some c ∧ W.cell? ⟨p4.1, p4.2, none⟩ = some d ∧ Rd g w0 W) (n1 : p1.1 ≠ g) (n2 : p2.1 ≠ g) (n3 : p3.1 ≠ g) (n4 : p4.1 ≠ g) (hb : Rd g W W') :
    W'.cell? ⟨p1.1, p1.2, none⟩ = some a ∧ W'.cell? ⟨p2.1, p2.2, none⟩ = some b ∧ W'.cell? ⟨p3.1, p3.2, none⟩ = some c ∧ W'.cell? ⟨p4.1, p4.2, none⟩ = some d ∧ Rd g w0 W' :=
  ⟨hb.cell n1 h.1, hb.cell n2 h.2.1, hb.cell n3 h.2.2.1, hb.cell n4 h.2.2.2.1, h.2.2.2.2.trans hb⟩
theorem keepSet {g : Nat} {w0 W : World} {p1 p2 p3 p4 : Nat × Nat} {a b c d : Value} {B i : Nat} {v : Value} (h : W.cell? ⟨p1.1, p1.2, none⟩ = some a ∧ W.cell? ⟨p2.1, p2.2, none⟩ = some b ∧ W.cell? ⟨p3.1, p3.2, none⟩ = some c ∧ W.cell? ⟨p4.1, p4.2, none⟩ = some d ∧ Rd g w0 W) (n1 : p1.1 ≠ B) (n2 : p2.1 ≠ B) (n3 : p3.1 ≠ B) (n4 : p4.1 ≠ B) (hB : w0.heap.size ≤ B) :
    (W.setCell ⟨B, i, none⟩ v).cell? ⟨p1.1, p1.2, none⟩ = some a ∧ (W.setCell ⟨B, i, none⟩ v).cell? ⟨p2.1, p2.2, none⟩ = some b ∧ (W.setCell ⟨B, i, none⟩ v).cell? ⟨p3.1, p3.2, none⟩ = some c ∧ (W.setCell ⟨B, i, none⟩ v).cell? ⟨p4.1, p4.2, none⟩ = some d ∧ Rd g w0 (W.setCell ⟨B, i, none⟩ v) :=
  ⟨(World.cell?_setCell_far _ _ _ _ (fun e => n1 e.symm)).trans h.1, (World.cell?_setCell_far _ _ _ _ (fun e => n2 e.symm)).trans h.2.1, (World.cell?_setCell_far _ _ _ _ (fun e => n3 e.symm)).trans h.2.2.1, (World.cell?_setCell_far _ _ _ _ (fun e => n4 e.symm)).trans h.2.2.2.1,
   ⟨h.2.2.2.2.os, h.2.2.2.2.tape, h.2.2.2.2.output, by simpa using h.2.2.2.2.size, fun k hk hne => by
    rw [heap_setCell_other _ _ _ _ (show k ≠ B by omega)]; exact h.2.2.2.2.block k hk hne⟩⟩
/-- a new block of three cells behind what changes only the cursor -/
theorem Rd.three {g : Nat} {w w1 : World} {a b c : Value} {t : TypeId} {B : Nat} (hB : w.heap.size = B) (hg : g < w.heap.size) (h : Rd g (w.alloc (.cells #[a, b, c] t)) w1) :
    w1.cell? ⟨B, 0, none⟩ = some a ∧ w1.cell? ⟨B, 1, none⟩ = some b ∧ w1.cell? ⟨B, 2, none⟩ = some c ∧ w1.frozen? ⟨B, 0, none⟩ = false ∧ w1.frozen? ⟨B, 1, none⟩ = false ∧ w1.frozen? ⟨B, 2, none⟩ = false := by
  subst hB
  have hne : w.heap.size ≠ g := by omega
  exact ⟨h.cell hne (by go_simp), h.cell hne (by go_simp), h.cell hne (by go_simp), (h.frozen hne (by simp)).trans (by go_simp), (h.frozen hne (by simp)).trans (by go_simp), (h.frozen hne (by simp)).trans (by go_simp)⟩
theorem Rd.set {g B i : Nat} {w W : World} (h : Rd g w W) (hB : w.heap.size ≤ B) (v : Value) : Rd g w (W.setCell ⟨B, i, none⟩ v) :=
  ⟨h.os, h.tape, h.output, by simpa using h.size, fun k hk hne => by
    rw [heap_setCell_other _ _ _ _ (show k ≠ B by omega)]; exact h.block k hk hne⟩
theorem Cu.set {g B i : Nat} {sl : Value} {p lim : Int} {W : World} (h : Cu g sl p lim W) (hne : B ≠ g) (v : Value) : Cu g sl p lim (W.setCell ⟨B, i, none⟩ v) := by
  have hc : ∀ j, (W.setCell ⟨B, i, none⟩ v).cell? ⟨g, j, none⟩ = W.cell? ⟨g, j, none⟩ := fun j => by
    rw [World.cell?_setCell_far _ _ _ _ (fun e => hne e)]
  have hf : ∀ j, (W.setCell ⟨B, i, none⟩ v).frozen? ⟨g, j, none⟩ = W.frozen? ⟨g, j, none⟩ := fun j => by
    rw [World.frozen?_setCell]
  exact ⟨(hc 0).trans h.c0, (hc 1).trans h.c1, (hc 2).trans h.c2, (hf 1).trans h.f1, (hf 2).trans h.f2⟩
theorem six {g B1 B2 : Nat} {W w1 : World} {a0 a1 a2 b0 b1 b2 : Value} (n1 : B1 ≠ g) (n2 : B2 ≠ g) (h : Rd g W w1) (k : W.cell? ⟨B1, 0, none⟩ = some a0 ∧ W.cell? ⟨B1, 1, none⟩ = some a1 ∧ W.cell? ⟨B1, 2, none⟩ = some a2 ∧ W.frozen? ⟨B1, 0, none⟩ = false ∧ W.frozen? ⟨B1, 1, none⟩ = false ∧ W.frozen? ⟨B1, 2, none⟩ = false ∧ W.cell? ⟨B2, 0, none⟩ = some b0 ∧ W.cell? ⟨B2, 1, none⟩ = some b1 ∧ W.cell? ⟨B2, 2, none⟩ = some b2 ∧ W.frozen? ⟨B2, 0, none⟩ = false ∧ W.frozen? ⟨B2, 1, none⟩ = false ∧ W.frozen? ⟨B2, 2, none⟩ = false) :
    w1.cell? ⟨B1, 0, none⟩ = some a0 ∧ w1.cell? ⟨B1, 1, none⟩ = some a1 ∧ w1.cell? ⟨B1, 2, none⟩ = some a2 ∧ w1.frozen? ⟨B1, 0, none⟩ = false ∧ w1.frozen? ⟨B1, 1, none⟩ = false ∧ w1.frozen? ⟨B1, 2, none⟩ = false ∧ w1.cell? ⟨B2, 0, none⟩ = some b0 ∧ w1.cell? ⟨B2, 1, none⟩ = some b1 ∧ w1.cell? ⟨B2, 2, none⟩ = some b2 ∧ w1.frozen? ⟨B2, 0, none⟩ = false ∧ w1.frozen? ⟨B2, 1, none⟩ = false ∧ w1.frozen? ⟨B2, 2, none⟩ = false :=
  ⟨h.cell n1 k.1, h.cell n1 k.2.1, h.cell n1 k.2.2.1, (h.frozen n1 (cell_lt k.1)).trans k.2.2.2.1, (h.frozen n1 (cell_lt k.1)).trans k.2.2.2.2.1, (h.frozen n1 (cell_lt k.1)).trans k.2.2.2.2.2.1,
   h.cell n2 k.2.2.2.2.2.2.1, h.cell n2 k.2.2.2.2.2.2.2.1, h.cell n2 k.2.2.2.2.2.2.2.2.1, (h.frozen n2 (cell_lt k.2.2.2.2.2.2.1)).trans k.2.2.2.2.2.2.2.2.2.1, (h.frozen n2 (cell_lt k.2.2.2.2.2.2.1)).trans k.2.2.2.2.2.2.2.2.2.2.1, (h.frozen n2 (cell_lt k.2.2.2.2.2.2.1)).trans k.2.2.2.2.2.2.2.2.2.2.2⟩
/-- a store into the first of them -/
theorem sixset {B1 B2 : Nat} {w : World} {a0 a1 a2 b0 b1 b2 : Value} (v : Value) (ne : B1 ≠ B2) (k : w.cell? ⟨B1, 0, none⟩ = some a0 ∧ w.cell? ⟨B1, 1, none⟩ = some a1 ∧ w.cell? ⟨B1, 2, none⟩ = some a2 ∧ w.frozen? ⟨B1, 0, none⟩ = false ∧ w.frozen? ⟨B1, 1, none⟩ = false ∧ w.frozen? ⟨B1, 2, none⟩ = false ∧ w.cell? ⟨B2, 0, none⟩ = some b0 ∧ w.cell? ⟨B2, 1, none⟩ = some b1 ∧ w.cell? ⟨B2, 2, none⟩ = some b2 ∧ w.frozen? ⟨B2, 0, none⟩ = false ∧ w.frozen? ⟨B2, 1, none⟩ = false ∧ w.frozen? ⟨B2, 2, none⟩ = false) :
    (w.setCell ⟨B1, 1, none⟩ v).cell? ⟨B1, 0, none⟩ = some a0 ∧ (w.setCell ⟨B1, 1, none⟩ v).cell? ⟨B1, 1, none⟩ = some v ∧ (w.setCell ⟨B1, 1, none⟩ v).cell? ⟨B1, 2, none⟩ = some a2 ∧ (w.setCell ⟨B1, 1, none⟩ v).frozen? ⟨B1, 0, none⟩ = false ∧ (w.setCell ⟨B1, 1, none⟩ v).frozen? ⟨B1, 1, none⟩ = false ∧ (w.setCell ⟨B1, 1, none⟩ v).frozen? ⟨B1, 2, none⟩ = false ∧ (w.setCell ⟨B1, 1, none⟩ v).cell? ⟨B2, 0, none⟩ = some b0 ∧ (w.setCell ⟨B1, 1, none⟩ v).cell? ⟨B2, 1, none⟩ = some b1 ∧ (w.setCell ⟨B1, 1, none⟩ v).cell? ⟨B2, 2, none⟩ = some b2 ∧ (w.setCell ⟨B1, 1, none⟩ v).frozen? ⟨B2, 0, none⟩ = false ∧ (w.setCell ⟨B1, 1, none⟩ v).frozen? ⟨B2, 1, none⟩ = false ∧ (w.setCell ⟨B1, 1, none⟩ v).frozen? ⟨B2, 2, none⟩ = false :=
  ⟨(by have := k.1; go_simp), World.cell?_setCell_same _ _ _ k.2.1, (by have := k.2.2.1; go_simp), (World.frozen?_setCell _ _ _ _).trans k.2.2.2.1, (World.frozen?_setCell _ _ _ _).trans k.2.2.2.2.1, (World.frozen?_setCell _ _ _ _).trans k.2.2.2.2.2.1,
   (World.cell?_setCell_far _ _ _ _ ne).trans k.2.2.2.2.2.2.1, (World.cell?_setCell_far _ _ _ _ ne).trans k.2.2.2.2.2.2.2.1, (World.cell?_setCell_far _ _ _ _ ne).trans k.2.2.2.2.2.2.2.2.1, (World.frozen?_setCell _ _ _ _).trans k.2.2.2.2.2.2.2.2.2.1, (World.frozen?_setCell _ _ _ _).trans k.2.2.2.2.2.2.2.2.2.2.1, (World.frozen?_setCell _ _ _ _).trans k.2.2.2.2.2.2.2.2.2.2.2⟩
theorem tmMin1_bd {x : Int} : 0 ≤ tmMin 1 x ∧ tmMin 1 x ≤ 1099511627776 := by unfold tmMin capM; split <;> (try split) <;> omega
theorem tmMax5_bd {x : Int} : 0 ≤ tmMax 5 x := by unfold tmMax capM; repeat (split <;> try omega)
set_option maxHeartbeats 4000000 in
theorem readLimits_err2 (g : Nat) (A : Option Addr) (c : Nat) (l : List Int) (p lim : Int) (w : World) (a b x : Int) (s : Int × Int) (h : CB g A c l p lim w) (hG : GlobN w) (hgl : 3 ≠ g) (a0 : 0 ≤ a) (a1 : a ≤ 1099511627776) (b0 : 0 ≤ b)
    (hx : byteM (limB a b) l p lim = .ok (.int .u8 x, p + 1)) (x0 : 0 ≤ x) (x1 : x ≤ 1)
    (hm : uM (rgI (tmMin 1 x + a) (andMax (tmMax 5 x) b)) l lim 5 0 (p + 1) = .error s) :
    Calls Tryd.prog 88 #[.pointer (some ⟨g, 0, none⟩), .agg #[.int .i64 a, .int .i64 b]] w (Post g A c l lim w (.error s)) := by
  have HX := hid (fun W (hW : Rd g w W) (hC : CB g A c l p lim W) B (hne : B ≠ g) (h0 : W.cell? ⟨B, 0, none⟩ = some (.int .i64 a)) (h1 : W.cell? ⟨B, 1, none⟩ = some (.int .i64 b)) => byte_walk g A c l p lim W 137 #[.pointer (some ⟨B, 0, none⟩)] (limB a b) (enters Tryd.func137 (by kernel_rfl) rfl) hC (fun x r W' x0 x1 hW' => readLimits1_any x r a b B W' x0 (hG.rd hgl (hW.trans hW')) a0 a1 b0 (hW'.cell hne h0) (hW'.cell hne h1)))
  rw [hx] at HX
  have HU := hid (fun W (hC : CB g A c l (p + 1) lim W) B (hne : B ≠ g) (h0 : W.cell? ⟨B, 0, none⟩ = some (.int .i64 (tmMin 1 x + a))) (h1 : W.cell? ⟨B, 1, none⟩ = some (.int .i64 (andMax (tmMax 5 x) b))) => uint_walk g A c l (p + 1) lim W 163 #[.pointer (some ⟨B, 0, none⟩)] _ hC (index_wants hne h0 h1))
  rw [hm] at HU
  have HGN := hid (fun W (hW : Rd g w W) => hG.rd hgl hW)
  have HL := hid h.cu.lt
  have hg3 := cell_lt hG.c0
  have HA := hid (And.intro (tmMin1_bd (x := x)) (tmMax5_bd (x := x)))
  have HC := hid h
  have hlt := h.cu.lt
  have hwx : IntKind.i64.wrap x = x := by rw [IntKind.wrap_i64]; omega
  have HWX := hid hwx
  clear hx h hG hm hwx
  have hmf : ∀ (fn : Fn) (first cap : Array Value) (w : World), (Instr.makeFunc fn first cap).run Tryd.prog w = .ok (.func fn first cap) w := fun _ _ _ _ => rfl
  go_enter Tryd.func88, Tryd.ntmps88
  go_upto_region 3 with (first | (go_at_call 94; refine (HX.out _ (Rd.of_below (by repeat (first | exact Below.refl _ _ | assumption | refine Below.alloc ?_ (by first | exact Nat.le_refl _ | (simp; done) | (simp; omega) | omega) _ | refine Below.drew ?_ | refine Below.setCell ?_ (by first | exact Nat.le_refl _ | (simp; done) | (simp; omega) | omega) _ | refine below_call ?_ (by assumption) (by first | exact Nat.le_refl _ | (simp; done) | (simp; omega) | omega)))) (HC.out.below (by repeat (first | exact Below.refl _ _ | assumption | refine Below.alloc ?_ (by first | exact Nat.le_refl _ | (simp; done) | (simp; omega) | omega) _ | refine Below.drew ?_ | refine Below.setCell ?_ (by first | exact Nat.le_refl _ | (simp; done) | (simp; omega) | omega) _ | refine below_call ?_ (by assumption) (by first | exact Nat.le_refl _ | (simp; done) | (simp; omega) | omega)))) _ (by omega) (by go_simp) (by go_simp)).mono ?_; rintro e w1 ⟨rfl, HC1, HG⟩; have HC1 := hid HC1))
  have hR1 : Rd g w (w1.alloc (.cells #[.bool (x == 1), .int .u32 0, .int .u32 0] 58)) := ((Rd.of_below (by repeat (first | exact Below.refl _ _ | assumption | refine Below.alloc ?_ (by first | exact Nat.le_refl _ | (simp; done) | (simp; omega) | omega) _ | refine Below.drew ?_ | refine Below.setCell ?_ (by first | exact Nat.le_refl _ | (simp; done) | (simp; omega) | omega) _ | refine below_call ?_ (by assumption) (by first | exact Nat.le_refl _ | (simp; done) | (simp; omega) | omega)))).trans HG).trans (Rd.of_below (by repeat (first | exact Below.refl _ _ | assumption | refine Below.alloc ?_ (by first | exact Nat.le_refl _ | (simp; done) | (simp; omega) | omega) _ | refine Below.drew ?_ | refine Below.setCell ?_ (by first | exact Nat.le_refl _ | (simp; done) | (simp; omega) | omega) _ | refine below_call ?_ (by assumption) (by first | exact Nat.le_refl _ | (simp; done) | (simp; omega) | omega))))
  have hne0 : w.heap.size ≠ g := by omega
  have hz1 : w.heap.size + 2 ≤ w1.heap.size := by have := HG.size; simp at this; omega
  have hl1 : g < w1.heap.size := by omega
  have b0' : w1.cell? ⟨w.heap.size, 0, none⟩ = some (.int .i64 a) := HG.cell hne0 (by go_simp)
  have b1' : w1.cell? ⟨w.heap.size, 1, none⟩ = some (.int .i64 b) := HG.cell hne0 (by go_simp)
  have S0 := hid (And.intro (still (Below.alloc (Below.refl _ w1) (Nat.le_refl _) (.cells #[.bool (x == 1), .int .u32 0, .int .u32 0] 58)) b0') (still (Below.alloc (Below.refl _ w1) (Nat.le_refl _) (.cells #[.bool (x == 1), .int .u32 0, .int .u32 0] 58)) b1'))
  have HQ := hid (HGN.out _ hR1)
  clear b0' b1'
  refine wp_region_held_drew (S := (fun W => W.cell? ⟨3, 0, none⟩ = some (.int .i64 1) ∧ W.cell? ⟨3, 1, none⟩ = some (.int .i64 5) ∧ W.cell? ⟨w.heap.size, 0, none⟩ = some (.int .i64 a) ∧ W.cell? ⟨w.heap.size, 1, none⟩ = some (.int .i64 b) ∧ Rd g w W)) (by kernel_rfl) ?hSa1 (fun hHeld => ?goa1)
  case hSa1 => exact keepR (p1 := (3, 0)) (p2 := (3, 1)) (p3 := (w.heap.size, 0)) (p4 := (w.heap.size, 1)) (g := g) ⟨HQ.out.c0, HQ.out.c1, S0.out.1, S0.out.2, hR1⟩ hgl hgl hne0 hne0 (Rd.of_below (Below.drew (Below.refl _ _)))
  refine wpAnyH_take (i := 0) (oi := { dst := some 13, op := Go.Op.move (Go.Operand.tmp 0), type := 81, pos := "wtype.go:174", after := #[], guard := none }) (v := ?_) rfl (by kernel_rfl) (by kernel_rfl) (by kernel_rfl) (fun _ _ _ h => h) (Or.inl ⟨by rfl, ?hya2⟩) (by assumption) ?resta2
  case hya2 => (intro w hSw; (try dsimp only at hSw); go_simp; first | (with_reducible rfl) | (rw [if_neg (by omega)]) | skip)
  simp only [Act.put, List.setIfInBounds_toArray, List.set_cons_zero, List.set_cons_succ]
  refine wpAnyH_take (i := 1) (oi := { dst := some 14, op := Go.Op.load 85 (Go.Operand.global 3), type := 85, pos := "wtype.go:174", after := #[], guard := none }) (v := ?_) rfl (by kernel_rfl) (by kernel_rfl) (by kernel_rfl) (fun _ _ _ h => h) (Or.inl ⟨by rfl, ?hya3⟩) (by assumption) ?resta3
  case hya3 => (intro w hSw; (try dsimp only at hSw); go_simp; first | (with_reducible rfl) | (rw [if_neg (by omega)]) | skip)
  simp only [Act.put, List.setIfInBounds_toArray, List.set_cons_zero, List.set_cons_succ]
  refine wpAnyH_take (i := 2) (oi := { dst := some 15, op := Go.Op.move (Go.Operand.tmp 5), type := 5, pos := "wtype.go:174", after := #[], guard := none }) (v := ?_) rfl (by kernel_rfl) (by kernel_rfl) (by kernel_rfl) (fun _ _ _ h => h) (Or.inl ⟨by rfl, ?hya4⟩) (by assumption) ?resta4
  case hya4 => (intro w hSw; (try dsimp only at hSw); go_simp; first | (with_reducible rfl) | (rw [if_neg (by omega)]) | skip)
  simp only [Act.put, List.setIfInBounds_toArray, List.set_cons_zero, List.set_cons_succ]
  refine wpAnyH_take (i := 3) (oi := { dst := some 16, op := Go.Op.convert 5 3 (Go.Operand.tmp 15), type := 3, pos := "wtype.go:174", after := #[{ on := 2, ground := Go.Ground.data }], guard := none }) (v := ?_) rfl (by kernel_rfl) (by kernel_rfl) (by kernel_rfl) (fun _ _ _ h => h) (Or.inl ⟨by rfl, ?hya5⟩) (by assumption) ?resta5
  case hya5 => (intro w hSw; (try dsimp only at hSw); go_simp; first | (with_reducible rfl) | (rw [if_neg (by omega)]) | skip)
  simp only [Act.put, List.setIfInBounds_toArray, List.set_cons_zero, List.set_cons_succ]
  refine wpAnyH_take (i := 5) (oi := { dst := some 18, op := Go.Op.load 85 (Go.Operand.tmp 3), type := 85, pos := "wtype.go:174", after := #[], guard := none }) (v := ?_) rfl (by kernel_rfl) (by kernel_rfl) (by kernel_rfl) (fun _ _ _ h => h) (Or.inl ⟨by rfl, ?hya6⟩) (by assumption) ?resta6
  case hya6 => (intro w hSw; (try dsimp only at hSw); go_simp; first | (with_reducible rfl) | (rw [if_neg (by omega)]) | skip)
  simp only [Act.put, List.setIfInBounds_toArray, List.set_cons_zero, List.set_cons_succ]
  refine wpAnyH_ready (rs := [4]) (by kernel_rfl) (by simp) ?_
  refine AllReadyH.cons (o := { dst := some 17, op := Go.Op.call { callee := Go.Callee.value (Go.Operand.func 138), args := #[Go.Operand.tmp 14, Go.Operand.tmp 16], argTypes := #[85, 3] }, type := 85, pos := "wtype.go:174", after := #[{ on := 1, ground := Go.Ground.data }, { on := 3, ground := Go.Ground.data }], guard := none }) rfl (fun K hK => ?_) AllReadyH.nil
  go_simp
  rw [HWX.out]; go_at_call 138; (with_reducible refine (tms_any 1 5 x _ (by omega) (by omega) (by omega) (by omega) (by omega)).mono ?_); rintro e w2 ⟨rfl, hb2⟩
  refine hK.out _ _ ?_ (fun hHeld => ?_)
  · (try dsimp only); exact keepR (p1 := (3, 0)) (p2 := (3, 1)) (p3 := (w.heap.size, 0)) (p4 := (w.heap.size, 1)) (g := g) hHeld hgl hgl hne0 hne0 (Rd.of_below (by assumption))
  clear hK K
  try simp only [Act.put, List.setIfInBounds_toArray, List.set_cons_zero, List.set_cons_succ]
  refine wpAnyH_ready (rs := [6]) (by kernel_rfl) (by simp) ?_
  refine AllReadyH.cons (o := { dst := some 19, op := Go.Op.call { callee := Go.Callee.value (Go.Operand.func 93), args := #[Go.Operand.tmp 17, Go.Operand.tmp 18], argTypes := #[85, 85] }, type := 85, pos := "wtype.go:174", after := #[{ on := 4, ground := Go.Ground.data }, { on := 5, ground := Go.Ground.data }, { on := 4, ground := Go.Ground.chain }], guard := none }) rfl (fun K hK => ?_) AllReadyH.nil
  go_simp
  go_at_call 93; (with_reducible refine (and_any _ _ _ _ _ HA.out.1.1 (by have := HA.out.1.2; omega) a0 (by omega) HA.out.2 b0).mono ?_); rintro e w3 ⟨rfl, hb3⟩
  refine hK.out _ _ ?_ (fun hHeld => ?_)
  · (try dsimp only); exact keepR (p1 := (3, 0)) (p2 := (3, 1)) (p3 := (w.heap.size, 0)) (p4 := (w.heap.size, 1)) (g := g) hHeld hgl hgl hne0 hne0 (Rd.of_below (by assumption))
  clear hK K
  try simp only [Act.put, List.setIfInBounds_toArray, List.set_cons_zero, List.set_cons_succ]
  refine wpAnyH_ready (rs := [7]) (by kernel_rfl) (by simp) ?_
  refine AllReadyH.cons (o := { dst := some 20, op := Go.Op.call { callee := Go.Callee.value (Go.Operand.func 139), args := #[Go.Operand.tmp 19], argTypes := #[85] }, type := 161, pos := "wtype.go:174", after := #[{ on := 6, ground := Go.Ground.data }, { on := 6, ground := Go.Ground.chain }], guard := none }) rfl (fun K hK => ?_) AllReadyH.nil
  go_simp
  go_at_call 139; (with_reducible refine (index_walk _ _ _).mono ?_); rintro e w4 ⟨rfl, hb4, hs4, i0, i1⟩
  refine hK.out _ _ ?_ (fun hHeld => ?_)
  · (try dsimp only); exact keepR (p1 := (3, 0)) (p2 := (3, 1)) (p3 := (w.heap.size, 0)) (p4 := (w.heap.size, 1)) (g := g) hHeld hgl hgl hne0 hne0 (Rd.of_below (by assumption))
  clear hK K
  try simp only [Act.put, List.setIfInBounds_toArray, List.set_cons_zero, List.set_cons_succ]
  refine wpAnyH_ready (rs := [8]) (by kernel_rfl) (by simp) ?_
  refine AllReadyH.cons (o := { dst := some 21, op := Go.Op.call { callee := Go.Callee.value (Go.Operand.func 107), args := #[Go.Operand.tmp 13, Go.Operand.tmp 20], argTypes := #[81, 161] }, type := 45, pos := "wtype.go:174", after := #[{ on := 0, ground := Go.Ground.data }, { on := 7, ground := Go.Ground.data }, { on := 7, ground := Go.Ground.chain }], guard := none }) rfl (fun K hK => ?_) AllReadyH.nil
  go_simp
  go_at_call 107; (with_reducible refine (HU.out _ (((((HC1.out.below (Below.alloc (Below.refl _ _) (Nat.le_refl _) _)).below (Below.drew (Below.refl _ _))).below hb2).below hb3).below hb4) _ (by have := hb2.size; have := hb3.size; simp at *; omega) i0 i1).mono ?_); rintro e w5 ⟨rfl, HG5⟩; exact ⟨rfl, rfl, hHeld.2.2.2.2.trans HG5⟩
set_option maxHeartbeats 4000000 in
theorem readLimits_ok0 (g : Nat) (A : Option Addr) (c : Nat) (l : List Int) (p lim : Int) (w : World) (a b x : Int) (mn p2 : Int) (h : CB g A c l p lim w) (hG : GlobN w) (hgl : 3 ≠ g) (a0 : 0 ≤ a) (a1 : a ≤ 1099511627776) (b0 : 0 ≤ b)
    (hx : byteM (limB a b) l p lim = .ok (.int .u8 x, p + 1)) (x0 : 0 ≤ x) (x1 : x ≤ 1)
    (hm : uM (rgI (tmMin 1 x + a) (andMax (tmMax 5 x) b)) l lim 5 0 (p + 1) = .ok (mn, p2)) (hx0 : Hid (x = 0)) :
    Calls Tryd.prog 88 #[.pointer (some ⟨g, 0, none⟩), .agg #[.int .i64 a, .int .i64 b]] w (Post g A c l lim w (.ok (.agg #[.bool false, .int .u32 mn, .int .u32 0], p2))) := by
  have HX := hid (fun W (hW : Rd g w W) (hC : CB g A c l p lim W) B (hne : B ≠ g) (h0 : W.cell? ⟨B, 0, none⟩ = some (.int .i64 a)) (h1 : W.cell? ⟨B, 1, none⟩ = some (.int .i64 b)) => byte_walk g A c l p lim W 137 #[.pointer (some ⟨B, 0, none⟩)] (limB a b) (enters Tryd.func137 (by kernel_rfl) rfl) hC (fun x r W' x0 x1 hW' => readLimits1_any x r a b B W' x0 (hG.rd hgl (hW.trans hW')) a0 a1 b0 (hW'.cell hne h0) (hW'.cell hne h1)))
  rw [hx] at HX
  have HU := hid (fun W (hC : CB g A c l (p + 1) lim W) B (hne : B ≠ g) (h0 : W.cell? ⟨B, 0, none⟩ = some (.int .i64 (tmMin 1 x + a))) (h1 : W.cell? ⟨B, 1, none⟩ = some (.int .i64 (andMax (tmMax 5 x) b))) => uint_walk g A c l (p + 1) lim W 163 #[.pointer (some ⟨B, 0, none⟩)] _ hC (index_wants hne h0 h1))
  rw [hm] at HU
  have HGN := hid (fun W (hW : Rd g w W) => hG.rd hgl hW)
  have HL := hid h.cu.lt
  have hg3 := cell_lt hG.c0
  have HA := hid (And.intro (tmMin1_bd (x := x)) (tmMax5_bd (x := x)))
  have HC := hid h
  have hlt := h.cu.lt
  have hwx : IntKind.i64.wrap x = x := by rw [IntKind.wrap_i64]; omega
  have HWX := hid hwx
  clear hx h hG hm hwx
  have hmf : ∀ (fn : Fn) (first cap : Array Value) (w : World), (Instr.makeFunc fn first cap).run Tryd.prog w = .ok (.func fn first cap) w := fun _ _ _ _ => rfl
  go_enter Tryd.func88, Tryd.ntmps88
  go_upto_region 3 with (first | (go_at_call 94; refine (HX.out _ (Rd.of_below (by repeat (first | exact Below.refl _ _ | assumption | refine Below.alloc ?_ (by first | exact Nat.le_refl _ | (simp; done) | (simp; omega) | omega) _ | refine Below.drew ?_ | refine Below.setCell ?_ (by first | exact Nat.le_refl _ | (simp; done) | (simp; omega) | omega) _ | refine below_call ?_ (by assumption) (by first | exact Nat.le_refl _ | (simp; done) | (simp; omega) | omega)))) (HC.out.below (by repeat (first | exact Below.refl _ _ | assumption | refine Below.alloc ?_ (by first | exact Nat.le_refl _ | (simp; done) | (simp; omega) | omega) _ | refine Below.drew ?_ | refine Below.setCell ?_ (by first | exact Nat.le_refl _ | (simp; done) | (simp; omega) | omega) _ | refine below_call ?_ (by assumption) (by first | exact Nat.le_refl _ | (simp; done) | (simp; omega) | omega)))) _ (by omega) (by go_simp) (by go_simp)).mono ?_; rintro e w1 ⟨rfl, HC1, HG⟩; have HC1 := hid HC1))
  have hR1 : Rd g w (w1.alloc (.cells #[.bool (x == 1), .int .u32 0, .int .u32 0] 58)) := ((Rd.of_below (by repeat (first | exact Below.refl _ _ | assumption | refine Below.alloc ?_ (by first | exact Nat.le_refl _ | (simp; done) | (simp; omega) | omega) _ | refine Below.drew ?_ | refine Below.setCell ?_ (by first | exact Nat.le_refl _ | (simp; done) | (simp; omega) | omega) _ | refine below_call ?_ (by assumption) (by first | exact Nat.le_refl _ | (simp; done) | (simp; omega) | omega)))).trans HG).trans (Rd.of_below (by repeat (first | exact Below.refl _ _ | assumption | refine Below.alloc ?_ (by first | exact Nat.le_refl _ | (simp; done) | (simp; omega) | omega) _ | refine Below.drew ?_ | refine Below.setCell ?_ (by first | exact Nat.le_refl _ | (simp; done) | (simp; omega) | omega) _ | refine below_call ?_ (by assumption) (by first | exact Nat.le_refl _ | (simp; done) | (simp; omega) | omega))))
  have hne0 : w.heap.size ≠ g := by omega
  have hz1 : w.heap.size + 2 ≤ w1.heap.size := by have := HG.size; simp at this; omega
  have hl1 : g < w1.heap.size := by omega
  have b0' : w1.cell? ⟨w.heap.size, 0, none⟩ = some (.int .i64 a) := HG.cell hne0 (by go_simp)
  have b1' : w1.cell? ⟨w.heap.size, 1, none⟩ = some (.int .i64 b) := HG.cell hne0 (by go_simp)
  have S0 := hid (And.intro (still (Below.alloc (Below.refl _ w1) (Nat.le_refl _) (.cells #[.bool (x == 1), .int .u32 0, .int .u32 0] 58)) b0') (still (Below.alloc (Below.refl _ w1) (Nat.le_refl _) (.cells #[.bool (x == 1), .int .u32 0, .int .u32 0] 58)) b1'))
  have HQ := hid (HGN.out _ hR1)
  clear b0' b1'
  refine wp_region_noPanic ?_
  refine wp_region_held_drew (S := (fun W => W.cell? ⟨3, 0, none⟩ = some (.int .i64 1) ∧ W.cell? ⟨3, 1, none⟩ = some (.int .i64 5) ∧ W.cell? ⟨w.heap.size, 0, none⟩ = some (.int .i64 a) ∧ W.cell? ⟨w.heap.size, 1, none⟩ = some (.int .i64 b) ∧ Rd g w W)) (by kernel_rfl) ?hSb1 (fun hHeld => ?gob1)
  case hSb1 => exact keepR (p1 := (3, 0)) (p2 := (3, 1)) (p3 := (w.heap.size, 0)) (p4 := (w.heap.size, 1)) (g := g) ⟨HQ.out.c0, HQ.out.c1, S0.out.1, S0.out.2, hR1⟩ hgl hgl hne0 hne0 (Rd.of_below (Below.drew (Below.refl _ _)))
  refine wpAnyH_take (i := 0) (oi := { dst := some 13, op := Go.Op.move (Go.Operand.tmp 0), type := 81, pos := "wtype.go:174", after := #[], guard := none }) (v := ?_) rfl (by kernel_rfl) (by kernel_rfl) (by kernel_rfl) (fun _ _ _ h => h) (Or.inl ⟨by rfl, ?hyb2⟩) (by assumption) ?restb2
  case hyb2 => (intro w hSw; (try dsimp only at hSw); go_simp; first | (with_reducible rfl) | (rw [if_neg (by omega)]) | skip)
  simp only [Act.put, List.setIfInBounds_toArray, List.set_cons_zero, List.set_cons_succ]
  refine wpAnyH_take (i := 1) (oi := { dst := some 14, op := Go.Op.load 85 (Go.Operand.global 3), type := 85, pos := "wtype.go:174", after := #[], guard := none }) (v := ?_) rfl (by kernel_rfl) (by kernel_rfl) (by kernel_rfl) (fun _ _ _ h => h) (Or.inl ⟨by rfl, ?hyb3⟩) (by assumption) ?restb3
  case hyb3 => (intro w hSw; (try dsimp only at hSw); go_simp; first | (with_reducible rfl) | (rw [if_neg (by omega)]) | skip)
  simp only [Act.put, List.setIfInBounds_toArray, List.set_cons_zero, List.set_cons_succ]
  refine wpAnyH_take (i := 2) (oi := { dst := some 15, op := Go.Op.move (Go.Operand.tmp 5), type := 5, pos := "wtype.go:174", after := #[], guard := none }) (v := ?_) rfl (by kernel_rfl) (by kernel_rfl) (by kernel_rfl) (fun _ _ _ h => h) (Or.inl ⟨by rfl, ?hyb4⟩) (by assumption) ?restb4
  case hyb4 => (intro w hSw; (try dsimp only at hSw); go_simp; first | (with_reducible rfl) | (rw [if_neg (by omega)]) | skip)
  simp only [Act.put, List.setIfInBounds_toArray, List.set_cons_zero, List.set_cons_succ]
  refine wpAnyH_take (i := 3) (oi := { dst := some 16, op := Go.Op.convert 5 3 (Go.Operand.tmp 15), type := 3, pos := "wtype.go:174", after := #[{ on := 2, ground := Go.Ground.data }], guard := none }) (v := ?_) rfl (by kernel_rfl) (by kernel_rfl) (by kernel_rfl) (fun _ _ _ h => h) (Or.inl ⟨by rfl, ?hyb5⟩) (by assumption) ?restb5
  case hyb5 => (intro w hSw; (try dsimp only at hSw); go_simp; first | (with_reducible rfl) | (rw [if_neg (by omega)]) | skip)
  simp only [Act.put, List.setIfInBounds_toArray, List.set_cons_zero, List.set_cons_succ]
  refine wpAnyH_take (i := 5) (oi := { dst := some 18, op := Go.Op.load 85 (Go.Operand.tmp 3), type := 85, pos := "wtype.go:174", after := #[], guard := none }) (v := ?_) rfl (by kernel_rfl) (by kernel_rfl) (by kernel_rfl) (fun _ _ _ h => h) (Or.inl ⟨by rfl, ?hyb6⟩) (by assumption) ?restb6
  case hyb6 => (intro w hSw; (try dsimp only at hSw); go_simp; first | (with_reducible rfl) | (rw [if_neg (by omega)]) | skip)
  simp only [Act.put, List.setIfInBounds_toArray, List.set_cons_zero, List.set_cons_succ]
  refine wpAnyH_ready (rs := [4]) (by kernel_rfl) (by simp) ?_
  refine AllReadyH.cons (o := { dst := some 17, op := Go.Op.call { callee := Go.Callee.value (Go.Operand.func 138), args := #[Go.Operand.tmp 14, Go.Operand.tmp 16], argTypes := #[85, 3] }, type := 85, pos := "wtype.go:174", after := #[{ on := 1, ground := Go.Ground.data }, { on := 3, ground := Go.Ground.data }], guard := none }) rfl (fun K hK => ?_) AllReadyH.nil
  go_simp
  rw [HWX.out]; go_at_call 138; (with_reducible refine (tms_any 1 5 x _ (by omega) (by omega) (by omega) (by omega) (by omega)).mono ?_); rintro e w2 ⟨rfl, hb2⟩
  refine hK.out _ _ ?_ (fun hHeld => ?_)
  · (try dsimp only); exact keepR (p1 := (3, 0)) (p2 := (3, 1)) (p3 := (w.heap.size, 0)) (p4 := (w.heap.size, 1)) (g := g) hHeld hgl hgl hne0 hne0 (Rd.of_below (by assumption))
  clear hK K
  try simp only [Act.put, List.setIfInBounds_toArray, List.set_cons_zero, List.set_cons_succ]
  refine wpAnyH_ready (rs := [6]) (by kernel_rfl) (by simp) ?_
  refine AllReadyH.cons (o := { dst := some 19, op := Go.Op.call { callee := Go.Callee.value (Go.Operand.func 93), args := #[Go.Operand.tmp 17, Go.Operand.tmp 18], argTypes := #[85, 85] }, type := 85, pos := "wtype.go:174", after := #[{ on := 4, ground := Go.Ground.data }, { on := 5, ground := Go.Ground.data }, { on := 4, ground := Go.Ground.chain }], guard := none }) rfl (fun K hK => ?_) AllReadyH.nil
  go_simp
  go_at_call 93; (with_reducible refine (and_any _ _ _ _ _ HA.out.1.1 (by have := HA.out.1.2; omega) a0 (by omega) HA.out.2 b0).mono ?_); rintro e w3 ⟨rfl, hb3⟩
  refine hK.out _ _ ?_ (fun hHeld => ?_)
  · (try dsimp only); exact keepR (p1 := (3, 0)) (p2 := (3, 1)) (p3 := (w.heap.size, 0)) (p4 := (w.heap.size, 1)) (g := g) hHeld hgl hgl hne0 hne0 (Rd.of_below (by assumption))
  clear hK K
  try simp only [Act.put, List.setIfInBounds_toArray, List.set_cons_zero, List.set_cons_succ]
  refine wpAnyH_ready (rs := [7]) (by kernel_rfl) (by simp) ?_
  refine AllReadyH.cons (o := { dst := some 20, op := Go.Op.call { callee := Go.Callee.value (Go.Operand.func 139), args := #[Go.Operand.tmp 19], argTypes := #[85] }, type := 161, pos := "wtype.go:174", after := #[{ on := 6, ground := Go.Ground.data }, { on := 6, ground := Go.Ground.chain }], guard := none }) rfl (fun K hK => ?_) AllReadyH.nil
  go_simp
  go_at_call 139; (with_reducible refine (index_walk _ _ _).mono ?_); rintro e w4 ⟨rfl, hb4, hs4, i0, i1⟩
  refine hK.out _ _ ?_ (fun hHeld => ?_)
  · (try dsimp only); exact keepR (p1 := (3, 0)) (p2 := (3, 1)) (p3 := (w.heap.size, 0)) (p4 := (w.heap.size, 1)) (g := g) hHeld hgl hgl hne0 hne0 (Rd.of_below (by assumption))
  clear hK K
  try simp only [Act.put, List.setIfInBounds_toArray, List.set_cons_zero, List.set_cons_succ]
  refine wpAnyH_ready (rs := [8]) (by kernel_rfl) (by simp) ?_
  refine AllReadyH.cons (o := { dst := some 21, op := Go.Op.call { callee := Go.Callee.value (Go.Operand.func 107), args := #[Go.Operand.tmp 13, Go.Operand.tmp 20], argTypes := #[81, 161] }, type := 45, pos := "wtype.go:174", after := #[{ on := 0, ground := Go.Ground.data }, { on := 7, ground := Go.Ground.data }, { on := 7, ground := Go.Ground.chain }], guard := none }) rfl (fun K hK => ?_) AllReadyH.nil
  go_simp
  go_at_call 107; (with_reducible refine (HU.out _ (((((HC1.out.below (Below.alloc (Below.refl _ _) (Nat.le_refl _) _)).below (Below.drew (Below.refl _ _))).below hb2).below hb3).below hb4) _ (by have := hb2.size; have := hb3.size; simp at *; omega) i0 i1).mono ?_); rintro e w5 ⟨rfl, HC5, HG5⟩; have HC5 := hid HC5; have hR5 : Rd g (w1.alloc (.cells #[.bool (x == 1), .int .u32 0, .int .u32 0] 58)) w5 := ((((Rd.of_below (Below.drew (Below.refl _ _))).trans (Rd.of_below hb2)).trans (Rd.of_below hb3)).trans (Rd.of_below hb4)).trans HG5; obtain ⟨k0, k1, k2, f0, f1, f2⟩ := Rd.three rfl hl1 hR5; have hR15 : Rd g w1 w5 := (Rd.of_below (Below.alloc (Below.refl _ _) (Nat.le_refl _) _)).trans hR5; obtain ⟨r0, r1, r2, q0, q1, q2⟩ := Rd.three (g := g) (B := w.heap.size + 1) (by simp) (by simp; omega) (HG.trans hR15)
  refine hK.out _ _ ?_ (fun hHeld => ?_)
  · (try dsimp only); exact keepR (p1 := (3, 0)) (p2 := (3, 1)) (p3 := (w.heap.size, 0)) (p4 := (w.heap.size, 1)) (g := g) hHeld hgl hgl hne0 hne0 HG5
  clear hK K
  try simp only [Act.put, List.setIfInBounds_toArray, List.set_cons_zero, List.set_cons_succ]
  refine wpAnyH_take (i := 9) (oi := { dst := some 22, op := Go.Op.fieldAddr 58 (Go.Operand.tmp 6) 1, type := 0, pos := "wtype.go:174", after := #[{ on := 0, ground := Go.Ground.phase }, { on := 1, ground := Go.Ground.phase }, { on := 2, ground := Go.Ground.phase }, { on := 3, ground := Go.Ground.phase }, { on := 4, ground := Go.Ground.phase }, { on := 5, ground := Go.Ground.phase }, { on := 6, ground := Go.Ground.phase }, { on := 7, ground := Go.Ground.phase }, { on := 8, ground := Go.Ground.phase }], guard := none }) (v := ?_) rfl (by kernel_rfl) (by kernel_rfl) (by kernel_rfl) (fun _ _ _ h => h) (Or.inl ⟨by rfl, ?hyb7⟩) (by assumption) ?restb7
  case hyb7 => (intro w hSw; (try dsimp only at hSw); go_simp; first | (with_reducible rfl) | (rw [if_neg (by omega)]) | skip)
  simp only [Act.put, List.setIfInBounds_toArray, List.set_cons_zero, List.set_cons_succ]
  refine wpAnyH_ready (rs := [10]) (by kernel_rfl) (by simp) ?_
  refine AllReadyH.cons (o := { dst := none, op := Go.Op.store 45 (Go.Operand.tmp 22) (Go.Operand.tmp 21), type := 0, pos := "wtype.go:174", after := #[{ on := 9, ground := Go.Ground.data }, { on := 8, ground := Go.Ground.data }, { on := 8, ground := Go.Ground.chain }, { on := 0, ground := Go.Ground.phase }, { on := 1, ground := Go.Ground.phase }, { on := 2, ground := Go.Ground.phase }, { on := 3, ground := Go.Ground.phase }, { on := 4, ground := Go.Ground.phase }, { on := 5, ground := Go.Ground.phase }, { on := 6, ground := Go.Ground.phase }, { on := 7, ground := Go.Ground.phase }, { on := 8, ground := Go.Ground.phase }], guard := none }) rfl (fun K hK => ?_) AllReadyH.nil
  go_simp
  refine hK.out _ _ ?_ (fun hHeld => ?_)
  · (try dsimp only); exact keepSet (p1 := (3, 0)) (p2 := (3, 1)) (p3 := (w.heap.size, 0)) (p4 := (w.heap.size, 1)) (g := g) hHeld (by omega) (by omega) (by omega) (by omega) (by omega)
  clear hK K
  try simp only [Act.put, List.setIfInBounds_toArray, List.set_cons_zero, List.set_cons_succ]
  refine wpAnyH_done (by kernel_rfl) ?_ _
  refine NoPanic.normal ?_
  have hx0 := hx0.out
  subst hx0
  clear hHeld
  have hRw5 : Rd g w w5 := ((Rd.of_below (by repeat (first | exact Below.refl _ _ | assumption | refine Below.alloc ?_ (by first | exact Nat.le_refl _ | (simp; done) | (simp; omega) | omega) _ | refine Below.drew ?_ | refine Below.setCell ?_ (by first | exact Nat.le_refl _ | (simp; done) | (simp; omega) | omega) _ | refine below_call ?_ (by assumption) (by first | exact Nat.le_refl _ | (simp; done) | (simp; omega) | omega)))).trans HG).trans hR15
  go_wp2
  have hRf := (((hRw5.set (i := 1) (B := w1.heap.size) (by omega) (.int .u32 mn)).set (i := 0) (B := w.heap.size + 1) (by omega) (.bool false)).set (i := 1) (B := w.heap.size + 1) (by omega) (.int .u32 mn)).set (i := 2) (B := w.heap.size + 1) (by omega) (.int .u32 0)
  refine bodyPost_ret (v := .agg #[.bool false, .int .u32 mn, .int .u32 0]) ?_ rfl ⟨rfl, HC.out.rd hRf ((((HC5.out.cu.set (by omega) _).set (by omega) _).set (by omega) _).set (by omega) _) HC5.out.p0 HC5.out.p1 HC5.out.l2, hRf⟩
  simp [results, Tryd.results88, go_sem, r0, r1, r2, k0, k1, k2]
set_option maxHeartbeats 4000000 in
theorem readLimits_ok1 (g : Nat) (A : Option Addr) (c : Nat) (l : List Int) (p lim : Int) (w : World) (a b x : Int) (mn p2 mx p3 : Int) (h : CB g A c l p lim w) (hG : GlobN w) (hgl : 3 ≠ g) (a0 : 0 ≤ a) (a1 : a ≤ 1099511627776) (b0 : 0 ≤ b)
    (hx : byteM (limB a b) l p lim = .ok (.int .u8 x, p + 1)) (x0 : 0 ≤ x) (x1 : x ≤ 1)
    (hm : uM (rgI (tmMin 1 x + a) (andMax (tmMax 5 x) b)) l lim 5 0 (p + 1) = .ok (mn, p2)) (hx1 : Hid (x = 1)) (hm2 : uM (rgI a b) l lim 5 0 p2 = .ok (mx, p3)) :
    Calls Tryd.prog 88 #[.pointer (some ⟨g, 0, none⟩), .agg #[.int .i64 a, .int .i64 b]] w (Post g A c l lim w (.ok (.agg #[.bool true, .int .u32 mn, .int .u32 mx], p3))) := by
  have HX := hid (fun W (hW : Rd g w W) (hC : CB g A c l p lim W) B (hne : B ≠ g) (h0 : W.cell? ⟨B, 0, none⟩ = some (.int .i64 a)) (h1 : W.cell? ⟨B, 1, none⟩ = some (.int .i64 b)) => byte_walk g A c l p lim W 137 #[.pointer (some ⟨B, 0, none⟩)] (limB a b) (enters Tryd.func137 (by kernel_rfl) rfl) hC (fun x r W' x0 x1 hW' => readLimits1_any x r a b B W' x0 (hG.rd hgl (hW.trans hW')) a0 a1 b0 (hW'.cell hne h0) (hW'.cell hne h1)))
  rw [hx] at HX
  have HU := hid (fun W (hC : CB g A c l (p + 1) lim W) B (hne : B ≠ g) (h0 : W.cell? ⟨B, 0, none⟩ = some (.int .i64 (tmMin 1 x + a))) (h1 : W.cell? ⟨B, 1, none⟩ = some (.int .i64 (andMax (tmMax 5 x) b))) => uint_walk g A c l (p + 1) lim W 163 #[.pointer (some ⟨B, 0, none⟩)] _ hC (index_wants hne h0 h1))
  rw [hm] at HU
  have HGN := hid (fun W (hW : Rd g w W) => hG.rd hgl hW)
  have HL := hid h.cu.lt
  have hg3 := cell_lt hG.c0
  have HA := hid (And.intro (tmMin1_bd (x := x)) (tmMax5_bd (x := x)))
  have HC := hid h
  have hlt := h.cu.lt
  have hwx : IntKind.i64.wrap x = x := by rw [IntKind.wrap_i64]; omega
  have HWX := hid hwx
  have HU2 := hid (fun W (hC : CB g A c l p2 lim W) B (hne : B ≠ g) (h0 : W.cell? ⟨B, 0, none⟩ = some (.int .i64 a)) (h1 : W.cell? ⟨B, 1, none⟩ = some (.int .i64 b)) => uint_walk g A c l p2 lim W 163 #[.pointer (some ⟨B, 0, none⟩)] _ hC (index_wants hne h0 h1))
  rw [hm2] at HU2
  clear hm2
  clear hx h hG hm hwx
  have hmf : ∀ (fn : Fn) (first cap : Array Value) (w : World), (Instr.makeFunc fn first cap).run Tryd.prog w = .ok (.func fn first cap) w := fun _ _ _ _ => rfl
  go_enter Tryd.func88, Tryd.ntmps88
  go_upto_region 3 with (first | (go_at_call 94; refine (HX.out _ (Rd.of_below (by repeat (first | exact Below.refl _ _ | assumption | refine Below.alloc ?_ (by first | exact Nat.le_refl _ | (simp; done) | (simp; omega) | omega) _ | refine Below.drew ?_ | refine Below.setCell ?_ (by first | exact Nat.le_refl _ | (simp; done) | (simp; omega) | omega) _ | refine below_call ?_ (by assumption) (by first | exact Nat.le_refl _ | (simp; done) | (simp; omega) | omega)))) (HC.out.below (by repeat (first | exact Below.refl _ _ | assumption | refine Below.alloc ?_ (by first | exact Nat.le_refl _ | (simp; done) | (simp; omega) | omega) _ | refine Below.drew ?_ | refine Below.setCell ?_ (by first | exact Nat.le_refl _ | (simp; done) | (simp; omega) | omega) _ | refine below_call ?_ (by assumption) (by first | exact Nat.le_refl _ | (simp; done) | (simp; omega) | omega)))) _ (by omega) (by go_simp) (by go_simp)).mono ?_; rintro e w1 ⟨rfl, HC1, HG⟩; have HC1 := hid HC1))
  have hR1 : Rd g w (w1.alloc (.cells #[.bool (x == 1), .int .u32 0, .int .u32 0] 58)) := ((Rd.of_below (by repeat (first | exact Below.refl _ _ | assumption | refine Below.alloc ?_ (by first | exact Nat.le_refl _ | (simp; done) | (simp; omega) | omega) _ | refine Below.drew ?_ | refine Below.setCell ?_ (by first | exact Nat.le_refl _ | (simp; done) | (simp; omega) | omega) _ | refine below_call ?_ (by assumption) (by first | exact Nat.le_refl _ | (simp; done) | (simp; omega) | omega)))).trans HG).trans (Rd.of_below (by repeat (first | exact Below.refl _ _ | assumption | refine Below.alloc ?_ (by first | exact Nat.le_refl _ | (simp; done) | (simp; omega) | omega) _ | refine Below.drew ?_ | refine Below.setCell ?_ (by first | exact Nat.le_refl _ | (simp; done) | (simp; omega) | omega) _ | refine below_call ?_ (by assumption) (by first | exact Nat.le_refl _ | (simp; done) | (simp; omega) | omega))))
  have hne0 : w.heap.size ≠ g := by omega
  have hz1 : w.heap.size + 2 ≤ w1.heap.size := by have := HG.size; simp at this; omega
  have hl1 : g < w1.heap.size := by omega
  have b0' : w1.cell? ⟨w.heap.size, 0, none⟩ = some (.int .i64 a) := HG.cell hne0 (by go_simp)
  have b1' : w1.cell? ⟨w.heap.size, 1, none⟩ = some (.int .i64 b) := HG.cell hne0 (by go_simp)
  have S0 := hid (And.intro (still (Below.alloc (Below.refl _ w1) (Nat.le_refl _) (.cells #[.bool (x == 1), .int .u32 0, .int .u32 0] 58)) b0') (still (Below.alloc (Below.refl _ w1) (Nat.le_refl _) (.cells #[.bool (x == 1), .int .u32 0, .int .u32 0] 58)) b1'))
  have HQ := hid (HGN.out _ hR1)
  clear b0' b1'
  refine wp_region_noPanic ?_
  refine wp_region_held_drew (S := (fun W => W.cell? ⟨3, 0, none⟩ = some (.int .i64 1) ∧ W.cell? ⟨3, 1, none⟩ = some (.int .i64 5) ∧ W.cell? ⟨w.heap.size, 0, none⟩ = some (.int .i64 a) ∧ W.cell? ⟨w.heap.size, 1, none⟩ = some (.int .i64 b) ∧ Rd g w W)) (by kernel_rfl) ?hSc1 (fun hHeld => ?goc1)
  case hSc1 => exact keepR (p1 := (3, 0)) (p2 := (3, 1)) (p3 := (w.heap.size, 0)) (p4 := (w.heap.size, 1)) (g := g) ⟨HQ.out.c0, HQ.out.c1, S0.out.1, S0.out.2, hR1⟩ hgl hgl hne0 hne0 (Rd.of_below (Below.drew (Below.refl _ _)))
  refine wpAnyH_take (i := 0) (oi := { dst := some 13, op := Go.Op.move (Go.Operand.tmp 0), type := 81, pos := "wtype.go:174", after := #[], guard := none }) (v := ?_) rfl (by kernel_rfl) (by kernel_rfl) (by kernel_rfl) (fun _ _ _ h => h) (Or.inl ⟨by rfl, ?hyc2⟩) (by assumption) ?restc2
  case hyc2 => (intro w hSw; (try dsimp only at hSw); go_simp; first | (with_reducible rfl) | (rw [if_neg (by omega)]) | skip)
  simp only [Act.put, List.setIfInBounds_toArray, List.set_cons_zero, List.set_cons_succ]
  refine wpAnyH_take (i := 1) (oi := { dst := some 14, op := Go.Op.load 85 (Go.Operand.global 3), type := 85, pos := "wtype.go:174", after := #[], guard := none }) (v := ?_) rfl (by kernel_rfl) (by kernel_rfl) (by kernel_rfl) (fun _ _ _ h => h) (Or.inl ⟨by rfl, ?hyc3⟩) (by assumption) ?restc3
  case hyc3 => (intro w hSw; (try dsimp only at hSw); go_simp; first | (with_reducible rfl) | (rw [if_neg (by omega)]) | skip)
  simp only [Act.put, List.setIfInBounds_toArray, List.set_cons_zero, List.set_cons_succ]
  refine wpAnyH_take (i := 2) (oi := { dst := some 15, op := Go.Op.move (Go.Operand.tmp 5), type := 5, pos := "wtype.go:174", after := #[], guard := none }) (v := ?_) rfl (by kernel_rfl) (by kernel_rfl) (by kernel_rfl) (fun _ _ _ h => h) (Or.inl ⟨by rfl, ?hyc4⟩) (by assumption) ?restc4
  case hyc4 => (intro w hSw; (try dsimp only at hSw); go_simp; first | (with_reducible rfl) | (rw [if_neg (by omega)]) | skip)
  simp only [Act.put, List.setIfInBounds_toArray, List.set_cons_zero, List.set_cons_succ]
  refine wpAnyH_take (i := 3) (oi := { dst := some 16, op := Go.Op.convert 5 3 (Go.Operand.tmp 15), type := 3, pos := "wtype.go:174", after := #[{ on := 2, ground := Go.Ground.data }], guard := none }) (v := ?_) rfl (by kernel_rfl) (by kernel_rfl) (by kernel_rfl) (fun _ _ _ h => h) (Or.inl ⟨by rfl, ?hyc5⟩) (by assumption) ?restc5
  case hyc5 => (intro w hSw; (try dsimp only at hSw); go_simp; first | (with_reducible rfl) | (rw [if_neg (by omega)]) | skip)
  simp only [Act.put, List.setIfInBounds_toArray, List.set_cons_zero, List.set_cons_succ]
  refine wpAnyH_take (i := 5) (oi := { dst := some 18, op := Go.Op.load 85 (Go.Operand.tmp 3), type := 85, pos := "wtype.go:174", after := #[], guard := none }) (v := ?_) rfl (by kernel_rfl) (by kernel_rfl) (by kernel_rfl) (fun _ _ _ h => h) (Or.inl ⟨by rfl, ?hyc6⟩) (by assumption) ?restc6
  case hyc6 => (intro w hSw; (try dsimp only at hSw); go_simp; first | (with_reducible rfl) | (rw [if_neg (by omega)]) | skip)
  simp only [Act.put, List.setIfInBounds_toArray, List.set_cons_zero, List.set_cons_succ]
  refine wpAnyH_ready (rs := [4]) (by kernel_rfl) (by simp) ?_
  refine AllReadyH.cons (o := { dst := some 17, op := Go.Op.call { callee := Go.Callee.value (Go.Operand.func 138), args := #[Go.Operand.tmp 14, Go.Operand.tmp 16], argTypes := #[85, 3] }, type := 85, pos := "wtype.go:174", after := #[{ on := 1, ground := Go.Ground.data }, { on := 3, ground := Go.Ground.data }], guard := none }) rfl (fun K hK => ?_) AllReadyH.nil
  go_simp
  rw [HWX.out]; go_at_call 138; (with_reducible refine (tms_any 1 5 x _ (by omega) (by omega) (by omega) (by omega) (by omega)).mono ?_); rintro e w2 ⟨rfl, hb2⟩
  refine hK.out _ _ ?_ (fun hHeld => ?_)
  · (try dsimp only); exact keepR (p1 := (3, 0)) (p2 := (3, 1)) (p3 := (w.heap.size, 0)) (p4 := (w.heap.size, 1)) (g := g) hHeld hgl hgl hne0 hne0 (Rd.of_below (by assumption))
  clear hK K
  try simp only [Act.put, List.setIfInBounds_toArray, List.set_cons_zero, List.set_cons_succ]
  refine wpAnyH_ready (rs := [6]) (by kernel_rfl) (by simp) ?_
  refine AllReadyH.cons (o := { dst := some 19, op := Go.Op.call { callee := Go.Callee.value (Go.Operand.func 93), args := #[Go.Operand.tmp 17, Go.Operand.tmp 18], argTypes := #[85, 85] }, type := 85, pos := "wtype.go:174", after := #[{ on := 4, ground := Go.Ground.data }, { on := 5, ground := Go.Ground.data }, { on := 4, ground := Go.Ground.chain }], guard := none }) rfl (fun K hK => ?_) AllReadyH.nil
  go_simp
  go_at_call 93; (with_reducible refine (and_any _ _ _ _ _ HA.out.1.1 (by have := HA.out.1.2; omega) a0 (by omega) HA.out.2 b0).mono ?_); rintro e w3 ⟨rfl, hb3⟩
  refine hK.out _ _ ?_ (fun hHeld => ?_)
  · (try dsimp only); exact keepR (p1 := (3, 0)) (p2 := (3, 1)) (p3 := (w.heap.size, 0)) (p4 := (w.heap.size, 1)) (g := g) hHeld hgl hgl hne0 hne0 (Rd.of_below (by assumption))
  clear hK K
  try simp only [Act.put, List.setIfInBounds_toArray, List.set_cons_zero, List.set_cons_succ]
  refine wpAnyH_ready (rs := [7]) (by kernel_rfl) (by simp) ?_
  refine AllReadyH.cons (o := { dst := some 20, op := Go.Op.call { callee := Go.Callee.value (Go.Operand.func 139), args := #[Go.Operand.tmp 19], argTypes := #[85] }, type := 161, pos := "wtype.go:174", after := #[{ on := 6, ground := Go.Ground.data }, { on := 6, ground := Go.Ground.chain }], guard := none }) rfl (fun K hK => ?_) AllReadyH.nil
  go_simp
  go_at_call 139; (with_reducible refine (index_walk _ _ _).mono ?_); rintro e w4 ⟨rfl, hb4, hs4, i0, i1⟩
  refine hK.out _ _ ?_ (fun hHeld => ?_)
  · (try dsimp only); exact keepR (p1 := (3, 0)) (p2 := (3, 1)) (p3 := (w.heap.size, 0)) (p4 := (w.heap.size, 1)) (g := g) hHeld hgl hgl hne0 hne0 (Rd.of_below (by assumption))
  clear hK K
  try simp only [Act.put, List.setIfInBounds_toArray, List.set_cons_zero, List.set_cons_succ]
  refine wpAnyH_ready (rs := [8]) (by kernel_rfl) (by simp) ?_
  refine AllReadyH.cons (o := { dst := some 21, op := Go.Op.call { callee := Go.Callee.value (Go.Operand.func 107), args := #[Go.Operand.tmp 13, Go.Operand.tmp 20], argTypes := #[81, 161] }, type := 45, pos := "wtype.go:174", after := #[{ on := 0, ground := Go.Ground.data }, { on := 7, ground := Go.Ground.data }, { on := 7, ground := Go.Ground.chain }], guard := none }) rfl (fun K hK => ?_) AllReadyH.nil
  go_simp
  go_at_call 107; (with_reducible refine (HU.out _ (((((HC1.out.below (Below.alloc (Below.refl _ _) (Nat.le_refl _) _)).below (Below.drew (Below.refl _ _))).below hb2).below hb3).below hb4) _ (by have := hb2.size; have := hb3.size; simp at *; omega) i0 i1).mono ?_); rintro e w5 ⟨rfl, HC5, HG5⟩; have HC5 := hid HC5; have hR5 : Rd g (w1.alloc (.cells #[.bool (x == 1), .int .u32 0, .int .u32 0] 58)) w5 := ((((Rd.of_below (Below.drew (Below.refl _ _))).trans (Rd.of_below hb2)).trans (Rd.of_below hb3)).trans (Rd.of_below hb4)).trans HG5; obtain ⟨k0, k1, k2, f0, f1, f2⟩ := Rd.three rfl hl1 hR5; have hR15 : Rd g w1 w5 := (Rd.of_below (Below.alloc (Below.refl _ _) (Nat.le_refl _) _)).trans hR5; obtain ⟨r0, r1, r2, q0, q1, q2⟩ := Rd.three (g := g) (B := w.heap.size + 1) (by simp) (by simp; omega) (HG.trans hR15); have b50 := (keepR (p1 := (3, 0)) (p2 := (3, 1)) (p3 := (w.heap.size, 0)) (p4 := (w.heap.size, 1)) (g := g) hHeld hgl hgl hne0 hne0 HG5).2.2.1; have b51 := (keepR (p1 := (3, 0)) (p2 := (3, 1)) (p3 := (w.heap.size, 0)) (p4 := (w.heap.size, 1)) (g := g) hHeld hgl hgl hne0 hne0 HG5).2.2.2.1
  refine hK.out _ _ ?_ (fun hHeld => ?_)
  · (try dsimp only); exact keepR (p1 := (3, 0)) (p2 := (3, 1)) (p3 := (w.heap.size, 0)) (p4 := (w.heap.size, 1)) (g := g) hHeld hgl hgl hne0 hne0 HG5
  clear hK K
  try simp only [Act.put, List.setIfInBounds_toArray, List.set_cons_zero, List.set_cons_succ]
  refine wpAnyH_take (i := 9) (oi := { dst := some 22, op := Go.Op.fieldAddr 58 (Go.Operand.tmp 6) 1, type := 0, pos := "wtype.go:174", after := #[{ on := 0, ground := Go.Ground.phase }, { on := 1, ground := Go.Ground.phase }, { on := 2, ground := Go.Ground.phase }, { on := 3, ground := Go.Ground.phase }, { on := 4, ground := Go.Ground.phase }, { on := 5, ground := Go.Ground.phase }, { on := 6, ground := Go.Ground.phase }, { on := 7, ground := Go.Ground.phase }, { on := 8, ground := Go.Ground.phase }], guard := none }) (v := ?_) rfl (by kernel_rfl) (by kernel_rfl) (by kernel_rfl) (fun _ _ _ h => h) (Or.inl ⟨by rfl, ?hyc7⟩) (by assumption) ?restc7
  case hyc7 => (intro w hSw; (try dsimp only at hSw); go_simp; first | (with_reducible rfl) | (rw [if_neg (by omega)]) | skip)
  simp only [Act.put, List.setIfInBounds_toArray, List.set_cons_zero, List.set_cons_succ]
  refine wpAnyH_ready (rs := [10]) (by kernel_rfl) (by simp) ?_
  refine AllReadyH.cons (o := { dst := none, op := Go.Op.store 45 (Go.Operand.tmp 22) (Go.Operand.tmp 21), type := 0, pos := "wtype.go:174", after := #[{ on := 9, ground := Go.Ground.data }, { on := 8, ground := Go.Ground.data }, { on := 8, ground := Go.Ground.chain }, { on := 0, ground := Go.Ground.phase }, { on := 1, ground := Go.Ground.phase }, { on := 2, ground := Go.Ground.phase }, { on := 3, ground := Go.Ground.phase }, { on := 4, ground := Go.Ground.phase }, { on := 5, ground := Go.Ground.phase }, { on := 6, ground := Go.Ground.phase }, { on := 7, ground := Go.Ground.phase }, { on := 8, ground := Go.Ground.phase }], guard := none }) rfl (fun K hK => ?_) AllReadyH.nil
  go_simp
  refine hK.out _ _ ?_ (fun hHeld => ?_)
  · (try dsimp only); exact keepSet (p1 := (3, 0)) (p2 := (3, 1)) (p3 := (w.heap.size, 0)) (p4 := (w.heap.size, 1)) (g := g) hHeld (by omega) (by omega) (by omega) (by omega) (by omega)
  clear hK K
  try simp only [Act.put, List.setIfInBounds_toArray, List.set_cons_zero, List.set_cons_succ]
  refine wpAnyH_done (by kernel_rfl) ?_ _
  refine NoPanic.normal ?_
  have hx1 := hx1.out
  subst hx1
  clear hHeld
  have hRw5 : Rd g w w5 := ((Rd.of_below (by repeat (first | exact Below.refl _ _ | assumption | refine Below.alloc ?_ (by first | exact Nat.le_refl _ | (simp; done) | (simp; omega) | omega) _ | refine Below.drew ?_ | refine Below.setCell ?_ (by first | exact Nat.le_refl _ | (simp; done) | (simp; omega) | omega) _ | refine below_call ?_ (by assumption) (by first | exact Nat.le_refl _ | (simp; done) | (simp; omega) | omega)))).trans HG).trans hR15
  have hR1f := hRw5.set (i := 1) (B := w1.heap.size) (by omega) (.int .u32 mn)
  have HCs := hid (HC.out.rd hR1f (HC5.out.cu.set (B := w1.heap.size) (i := 1) (by omega) (.int .u32 mn)) HC5.out.p0 HC5.out.p1 HC5.out.l2)
  have hse : (w5.setCell ⟨w1.heap.size, 1, none⟩ (.int .u32 mn)).heap.size = w5.heap.size := by simp
  have hng : w5.heap.size ≠ g := by have := hR15.size; omega
  have k0 : w5.cell? ⟨w1.heap.size, 0, none⟩ = some (.bool true) := k0
  have K6 := hid (sixset (.int .u32 mn) (by omega) ⟨k0, k1, k2, f0, f1, f2, r0, r1, r2, q0, q1, q2⟩)
  go_wp2_with (first | (go_at_call 139; (with_reducible refine (index_walk _ _ _).mono ?_); rintro e w6 ⟨rfl, hb6, hs6, i2, i3⟩; rw [hse] at i2 i3) | (go_at_call 107; (with_reducible refine (HU2.out _ (HCs.out.below hb6) _ hng i2 i3).mono ?_); rintro e w7 ⟨rfl, HC7, HG7⟩; have HC7 := hid HC7; obtain ⟨k0, k1, k2, f0, f1, f2, r0, r1, r2, q0, q1, q2⟩ := six (g := g) (by omega) (by omega) ((Rd.of_below hb6).trans HG7) K6.out))
  have hRf := (((((hR1f.trans (Rd.of_below hb6)).trans HG7).set (i := 2) (B := w1.heap.size) (by omega) (.int .u32 mx)).set (i := 0) (B := w.heap.size + 1) (by omega) (.bool true)).set (i := 1) (B := w.heap.size + 1) (by omega) (.int .u32 mn)).set (i := 2) (B := w.heap.size + 1) (by omega) (.int .u32 mx)
  refine bodyPost_ret (v := .agg #[.bool true, .int .u32 mn, .int .u32 mx]) ?_ rfl ⟨rfl, HC.out.rd hRf ((((HC7.out.cu.set (by omega) _).set (by omega) _).set (by omega) _).set (by omega) _) HC7.out.p0 HC7.out.p1 HC7.out.l2, hRf⟩
  simp [results, Tryd.results88, go_sem, r0, r1, r2, k0, k1, k2]
end Go.Proofs.YtiohiiekaofkbaaDoor
