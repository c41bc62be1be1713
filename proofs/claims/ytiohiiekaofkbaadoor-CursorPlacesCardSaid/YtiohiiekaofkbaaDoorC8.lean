/- wtype: ReadLimits$1. -/
import Derived.Test.YtiohiiekaofkbaaDoorC7
namespace Go.Proofs.YtiohiiekaofkbaaDoor
set_option linter.unusedVariables false
set_option linter.unusedSimpArgs false
open Go.RowKit

/-- wtype.number as it was laid -/
structure GlobN (w : World) : Prop where
  c0 : w.cell? ⟨3, 0, none⟩ = some (.int .i64 1)
  c1 : w.cell? ⟨3, 1, none⟩ = some (.int .i64 5)
theorem keep4c {w W W' : World} {p1 p2 p3 p4 : Nat × Nat} {a b c d : Value} {n : Nat} (h : W.cell? ⟨p1.1, p1.2, none⟩ = some a ∧ W.cell? ⟨p2.1, p2.2, none⟩ = some b ∧ W.cell? ⟨p3.1, p3.2, none⟩ = some c ∧ W.cell? ⟨p4.1, p4.2, none⟩ = some d ∧ Below n w W ∧ n ≤ W.heap.size) (hb : Below W.heap.size W W') :
    W'.cell? ⟨p1.1, p1.2, none⟩ = some a ∧ W'.cell? ⟨p2.1, p2.2, none⟩ = some b ∧ W'.cell? ⟨p3.1, p3.2, none⟩ = some c ∧ W'.cell? ⟨p4.1, p4.2, none⟩ = some d ∧ Below n w W' ∧ n ≤ W'.heap.size :=
  ⟨still hb h.1, still hb h.2.1, still hb h.2.2.1, still hb h.2.2.2.1, h.2.2.2.2.1.trans (hb.mono h.2.2.2.2.2), Nat.le_trans h.2.2.2.2.2 hb.size⟩
theorem wrap1 {x : Int} (h0 : 0 ≤ x) (h : x ≤ 1) : IntKind.i64.wrap (IntKind.i64.wrap x + 1) = x + 1 := by
  have e : IntKind.i64.wrap x = x := by rw [IntKind.wrap_i64]; omega
  rw [e, IntKind.wrap_i64]; omega
def limB (a b x r : Int) : Bool := decide (x ≤ 1) && chB (tmMin 1 (x + 1) + a) (andMax (tmMax 5 (x + 1)) b) r
set_option maxHeartbeats 4000000 in
theorem readLimits1_any (x r a b : Int) (B : Nat) (w : World) (x0 : 0 ≤ x) (hG : GlobN w) (a0 : 0 ≤ a) (a1 : a ≤ 1099511627776) (b0 : 0 ≤ b) (h0 : w.cell? ⟨B, 0, none⟩ = some (.int .i64 a)) (h1 : w.cell? ⟨B, 1, none⟩ = some (.int .i64 b)) :
    Calls Tryd.prog 137 #[.int .u8 x, .int .i64 r, .pointer (some ⟨B, 0, none⟩)] w fun e w' => e = .returned (.bool (limB a b x r)) ∧ Below w.heap.size w w' := by
  obtain ⟨g0, g1⟩ := hG
  by_cases hx : x ≤ 1
  · have hb0 : 0 ≤ tmMin 1 (x + 1) ∧ tmMin 1 (x + 1) ≤ 1099511627776 := by unfold tmMin capM; split <;> (try split) <;> omega
    have hb1 : 0 ≤ tmMax 5 (x + 1) := by unfold tmMax capM; repeat (split <;> try omega)
    have HB := hid (And.intro hb0 hb1)
    have HX := hid hx
    clear hb0 hb1
    go_enter Tryd.func137, Tryd.ntmps137
    go_upto_region 1 with (fail)
    have S0 : w.cell? ⟨3, 0, none⟩ = some (.int .i64 1) ∧ w.cell? ⟨3, 1, none⟩ = some (.int .i64 5) ∧ w.cell? ⟨B, 0, none⟩ = some (.int .i64 a) ∧ w.cell? ⟨B, 1, none⟩ = some (.int .i64 b) ∧ Below w.heap.size w w ∧ w.heap.size ≤ w.heap.size := ⟨g0, g1, h0, h1, Below.refl _ _, Nat.le_refl _⟩
    clear g0 g1 h0 h1
    refine wp_region_noPanic ?_
    refine wp_region_held_drew (S := (fun W => W.cell? ⟨3, 0, none⟩ = some (.int .i64 1) ∧ W.cell? ⟨3, 1, none⟩ = some (.int .i64 5) ∧ W.cell? ⟨B, 0, none⟩ = some (.int .i64 a) ∧ W.cell? ⟨B, 1, none⟩ = some (.int .i64 b) ∧ Below w.heap.size w W ∧ w.heap.size ≤ W.heap.size)) (by kernel_rfl) ?hSa (fun hHeld => ?goa)
    case hSa => exact keep4c (p1 := (3, 0)) (p2 := (3, 1)) (p3 := (B, 0)) (p4 := (B, 1)) S0 (Below.drew (Below.refl _ _))
    refine wpAnyH_take (i := 0) (oi := { dst := some 6, op := Go.Op.move (Go.Operand.tmp 0), type := 5, pos := "wtype.go:172", after := #[], guard := none }) (v := ?_) rfl (by kernel_rfl) (by kernel_rfl) (by kernel_rfl) (fun _ _ _ h => h) (Or.inl ⟨by rfl, ?hy0a⟩) (by assumption) ?rest0a
    case hy0a => (intro w hSw; (try dsimp only at hSw); go_simp; first | (with_reducible rfl) | (rw [if_neg (by omega)]) | skip)
    simp only [Act.put, List.setIfInBounds_toArray, List.set_cons_zero, List.set_cons_succ]
    refine wpAnyH_take (i := 1) (oi := { dst := some 7, op := Go.Op.binOp Go.BinOp.leq 5 (Go.Operand.tmp 6) (Go.Operand.const (Go.Value.int Go.IntKind.u8 1)) 5, type := 4, pos := "wtype.go:172", after := #[{ on := 0, ground := Go.Ground.data }], guard := none }) (v := ?_) rfl (by kernel_rfl) (by kernel_rfl) (by kernel_rfl) (fun _ _ _ h => h) (Or.inl ⟨by rfl, ?hy1a⟩) (by assumption) ?rest1a
    case hy1a => (intro w hSw; (try dsimp only at hSw); go_simp; first | (with_reducible rfl) | (rw [if_neg (by omega)]) | skip)
    simp only [Act.put, List.setIfInBounds_toArray, List.set_cons_zero, List.set_cons_succ]
    refine wpAnyH_take (i := 2) (oi := { dst := some 8, op := Go.Op.move (Go.Operand.tmp 7), type := 4, pos := "wtype.go:172", after := #[{ on := 1, ground := Go.Ground.data }], guard := none }) (v := ?_) rfl (by kernel_rfl) (by kernel_rfl) (by kernel_rfl) (fun _ _ _ h => h) (Or.inl ⟨by rfl, ?hy2a⟩) (by assumption) ?rest2a
    case hy2a => (intro w hSw; (try dsimp only at hSw); go_simp; first | (with_reducible rfl) | (rw [if_neg (by omega)]) | skip)
    simp only [Act.put, List.setIfInBounds_toArray, List.set_cons_zero, List.set_cons_succ]
    refine wpAnyH_take (i := 3) (oi := { dst := some 9, op := Go.Op.load 85 (Go.Operand.global 3), type := 85, pos := "wtype.go:172", after := #[{ on := 2, ground := Go.Ground.guard }], guard := some (2, true) }) (v := ?_) rfl (by kernel_rfl) (by kernel_rfl) (by kernel_rfl) (fun _ _ _ h => h) (Or.inl ⟨by rfl, ?hy3a⟩) (by assumption) ?rest3a
    case hy3a => (intro w hSw; (try dsimp only at hSw); go_simp; first | (with_reducible rfl) | (rw [if_neg (by omega)]) | skip)
    simp only [Act.put, List.setIfInBounds_toArray, List.set_cons_zero, List.set_cons_succ]
    refine wpAnyH_take (i := 4) (oi := { dst := some 10, op := Go.Op.move (Go.Operand.tmp 0), type := 5, pos := "wtype.go:172", after := #[{ on := 2, ground := Go.Ground.guard }], guard := some (2, true) }) (v := ?_) rfl (by kernel_rfl) (by kernel_rfl) (by kernel_rfl) (fun _ _ _ h => h) (Or.inl ⟨by rfl, ?hy4a⟩) (by assumption) ?rest4a
    case hy4a => (intro w hSw; (try dsimp only at hSw); go_simp; first | (with_reducible rfl) | (rw [if_neg (by omega)]) | skip)
    simp only [Act.put, List.setIfInBounds_toArray, List.set_cons_zero, List.set_cons_succ]
    refine wpAnyH_take (i := 5) (oi := { dst := some 11, op := Go.Op.convert 5 3 (Go.Operand.tmp 10), type := 3, pos := "wtype.go:172", after := #[{ on := 4, ground := Go.Ground.data }, { on := 2, ground := Go.Ground.guard }], guard := some (2, true) }) (v := ?_) rfl (by kernel_rfl) (by kernel_rfl) (by kernel_rfl) (fun _ _ _ h => h) (Or.inl ⟨by rfl, ?hy5a⟩) (by assumption) ?rest5a
    case hy5a => (intro w hSw; (try dsimp only at hSw); go_simp; first | (with_reducible rfl) | (rw [if_neg (by omega)]) | skip)
    simp only [Act.put, List.setIfInBounds_toArray, List.set_cons_zero, List.set_cons_succ]
    refine wpAnyH_take (i := 6) (oi := { dst := some 12, op := Go.Op.binOp Go.BinOp.add 3 (Go.Operand.tmp 11) (Go.Operand.const (Go.Value.int Go.IntKind.i64 1)) 3, type := 3, pos := "wtype.go:172", after := #[{ on := 5, ground := Go.Ground.data }, { on := 2, ground := Go.Ground.guard }], guard := some (2, true) }) (v := ?_) rfl (by kernel_rfl) (by kernel_rfl) (by kernel_rfl) (fun _ _ _ h => h) (Or.inl ⟨by rfl, ?hy6a⟩) (by assumption) ?rest6a
    case hy6a => (intro w hSw; (try dsimp only at hSw); go_simp; first | (with_reducible rfl) | (rw [if_neg (by omega)]) | skip)
    simp only [Act.put, List.setIfInBounds_toArray, List.set_cons_zero, List.set_cons_succ]
    refine wpAnyH_take (i := 8) (oi := { dst := some 14, op := Go.Op.load 85 (Go.Operand.tmp 2), type := 85, pos := "wtype.go:172", after := #[{ on := 2, ground := Go.Ground.guard }], guard := some (2, true) }) (v := ?_) rfl (by kernel_rfl) (by kernel_rfl) (by kernel_rfl) (fun _ _ _ h => h) (Or.inl ⟨by rfl, ?hy8a⟩) (by assumption) ?rest8a
    case hy8a => (intro w hSw; (try dsimp only at hSw); go_simp; first | (with_reducible rfl) | (rw [if_neg (by omega)]) | skip)
    simp only [Act.put, List.setIfInBounds_toArray, List.set_cons_zero, List.set_cons_succ]
    refine wpAnyH_take (i := 10) (oi := { dst := some 16, op := Go.Op.move (Go.Operand.tmp 1), type := 3, pos := "wtype.go:172", after := #[{ on := 2, ground := Go.Ground.guard }], guard := some (2, true) }) (v := ?_) rfl (by kernel_rfl) (by kernel_rfl) (by kernel_rfl) (fun _ _ _ h => h) (Or.inl ⟨by rfl, ?hy10a⟩) (by assumption) ?rest10a
    case hy10a => (intro w hSw; (try dsimp only at hSw); go_simp; first | (with_reducible rfl) | (rw [if_neg (by omega)]) | skip)
    simp only [Act.put, List.setIfInBounds_toArray, List.set_cons_zero, List.set_cons_succ]
    refine wpAnyH_ready (rs := [7]) (by kernel_rfl) (by simp) ?_
    refine AllReadyH.cons (o := { dst := some 13, op := Go.Op.call { callee := Go.Callee.value (Go.Operand.func 138), args := #[Go.Operand.tmp 9, Go.Operand.tmp 12], argTypes := #[85, 3] }, type := 85, pos := "wtype.go:172", after := #[{ on := 3, ground := Go.Ground.data }, { on := 6, ground := Go.Ground.data }, { on := 2, ground := Go.Ground.chain }, { on := 2, ground := Go.Ground.guard }], guard := some (2, true) }) rfl (fun K hK => ?_) AllReadyH.nil
    go_simp
    rw [wrap1 x0 HX.out]; go_at_call 138; (with_reducible refine (tms_any 1 5 (x + 1) _ (by omega) (by omega) (by omega) (by omega) (by have := HX.out; omega)).mono ?_); rintro e w2 ⟨rfl, hb2⟩
    refine hK.out _ _ ?_ (fun hHeld => ?_)
    · (try dsimp only); exact keep4c (p1 := (3, 0)) (p2 := (3, 1)) (p3 := (B, 0)) (p4 := (B, 1)) hHeld (by assumption)
    clear hK K
    try simp only [Act.put, List.setIfInBounds_toArray, List.set_cons_zero, List.set_cons_succ]
    refine wpAnyH_ready (rs := [9]) (by kernel_rfl) (by simp) ?_
    refine AllReadyH.cons (o := { dst := some 15, op := Go.Op.call { callee := Go.Callee.value (Go.Operand.func 93), args := #[Go.Operand.tmp 13, Go.Operand.tmp 14], argTypes := #[85, 85] }, type := 85, pos := "wtype.go:172", after := #[{ on := 7, ground := Go.Ground.data }, { on := 8, ground := Go.Ground.data }, { on := 7, ground := Go.Ground.chain }, { on := 2, ground := Go.Ground.guard }], guard := some (2, true) }) rfl (fun K hK => ?_) AllReadyH.nil
    go_simp
    go_at_call 93; (with_reducible refine (and_any _ _ _ _ _ HB.out.1.1 (by have := HB.out.1.2; omega) a0 (by omega) HB.out.2 b0).mono ?_); rintro e w3 ⟨rfl, hb3⟩
    refine hK.out _ _ ?_ (fun hHeld => ?_)
    · (try dsimp only); exact keep4c (p1 := (3, 0)) (p2 := (3, 1)) (p3 := (B, 0)) (p4 := (B, 1)) hHeld (by assumption)
    clear hK K
    try simp only [Act.put, List.setIfInBounds_toArray, List.set_cons_zero, List.set_cons_succ]
    refine wpAnyH_ready (rs := [11]) (by kernel_rfl) (by simp) ?_
    refine AllReadyH.cons (o := { dst := some 17, op := Go.Op.call { callee := Go.Callee.value (Go.Operand.func 96), args := #[Go.Operand.tmp 15, Go.Operand.tmp 16], argTypes := #[85, 3] }, type := 4, pos := "wtype.go:172", after := #[{ on := 9, ground := Go.Ground.data }, { on := 10, ground := Go.Ground.data }, { on := 9, ground := Go.Ground.chain }, { on := 2, ground := Go.Ground.guard }], guard := some (2, true) }) rfl (fun K hK => ?_) AllReadyH.nil
    go_simp
    go_at_call 96; (with_reducible refine (whas_any _ _ _ _).mono ?_); rintro e w4 ⟨rfl, hb4⟩
    refine hK.out _ _ ?_ (fun hHeld => ?_)
    · (try dsimp only); exact keep4c (p1 := (3, 0)) (p2 := (3, 1)) (p3 := (B, 0)) (p4 := (B, 1)) hHeld (by assumption)
    clear hK K
    try simp only [Act.put, List.setIfInBounds_toArray, List.set_cons_zero, List.set_cons_succ]
    refine wpAnyH_take (i := 12) (oi := { dst := some 18, op := Go.Op.pick (Go.Operand.tmp 8) (Go.Operand.tmp 17) (Go.Operand.const (Go.Value.bool false)), type := 4, pos := "wtype.go:172", after := #[{ on := 2, ground := Go.Ground.data }, { on := 11, ground := Go.Ground.data }], guard := none }) (v := ?_) rfl (by kernel_rfl) (by kernel_rfl) (by kernel_rfl) (fun _ _ _ h => h) (Or.inl ⟨by rfl, ?hy12a⟩) (by assumption) ?rest12a
    case hy12a => (intro w hSw; (try dsimp only at hSw); go_simp; first | (with_reducible rfl) | (rw [if_neg (by omega)]) | skip)
    simp only [Act.put, List.setIfInBounds_toArray, List.set_cons_zero, List.set_cons_succ]
    refine wpAnyH_take (i := 13) (oi := { dst := some 5, op := Go.Op.assign (Go.Operand.tmp 18), type := 4, pos := "wtype.go:172", after := #[{ on := 12, ground := Go.Ground.data }, { on := 11, ground := Go.Ground.chain }, { on := 0, ground := Go.Ground.phase }, { on := 1, ground := Go.Ground.phase }, { on := 2, ground := Go.Ground.phase }, { on := 3, ground := Go.Ground.phase }, { on := 4, ground := Go.Ground.phase }, { on := 5, ground := Go.Ground.phase }, { on := 6, ground := Go.Ground.phase }, { on := 7, ground := Go.Ground.phase }, { on := 8, ground := Go.Ground.phase }, { on := 9, ground := Go.Ground.phase }, { on := 10, ground := Go.Ground.phase }, { on := 11, ground := Go.Ground.phase }, { on := 12, ground := Go.Ground.phase }], guard := none }) (v := ?_) rfl (by kernel_rfl) (by kernel_rfl) (by kernel_rfl) (fun _ _ _ h => h) (Or.inl ⟨by rfl, ?hy13a⟩) (by assumption) ?rest13a
    case hy13a => (intro w hSw; (try dsimp only at hSw); go_simp; first | (with_reducible rfl) | (rw [if_neg (by omega)]) | skip)
    simp only [Act.put, List.setIfInBounds_toArray, List.set_cons_zero, List.set_cons_succ]
    refine wpAnyH_done (by kernel_rfl) ?_ _
    refine NoPanic.normal ?_
    go_wp2_with fail
    go_ret
    exact ⟨ret_bool (by rw [limB, decide_eq_true HX.out]; rfl), hHeld.2.2.2.2.1⟩
  · go_enter Tryd.func137, Tryd.ntmps137
    go_upto_region 1 with (fail)
    refine wp_region_noPanic ?_
    refine wp_region_held_drew (S := (fun W => Below w.heap.size w W)) (by kernel_rfl) ?hSb (fun hHeld => ?gob)
    case hSb => exact Below.drew (Below.refl _ _)
    refine wpAnyH_take (i := 0) (oi := { dst := some 6, op := Go.Op.move (Go.Operand.tmp 0), type := 5, pos := "wtype.go:172", after := #[], guard := none }) (v := ?_) rfl (by kernel_rfl) (by kernel_rfl) (by kernel_rfl) (fun _ _ _ h => h) (Or.inl ⟨by rfl, ?hy0b⟩) (by assumption) ?rest0b
    case hy0b => (intro w hSw; (try dsimp only at hSw); go_simp; first | (with_reducible rfl) | (rw [if_neg (by omega)]) | skip)
    simp only [Act.put, List.setIfInBounds_toArray, List.set_cons_zero, List.set_cons_succ]
    refine wpAnyH_take (i := 1) (oi := { dst := some 7, op := Go.Op.binOp Go.BinOp.leq 5 (Go.Operand.tmp 6) (Go.Operand.const (Go.Value.int Go.IntKind.u8 1)) 5, type := 4, pos := "wtype.go:172", after := #[{ on := 0, ground := Go.Ground.data }], guard := none }) (v := ?_) rfl (by kernel_rfl) (by kernel_rfl) (by kernel_rfl) (fun _ _ _ h => h) (Or.inl ⟨by rfl, ?hy1b⟩) (by assumption) ?rest1b
    case hy1b => (intro w hSw; (try dsimp only at hSw); go_simp; first | (with_reducible rfl) | (rw [if_neg (by omega)]) | skip)
    simp only [Act.put, List.setIfInBounds_toArray, List.set_cons_zero, List.set_cons_succ]
    refine wpAnyH_take (i := 2) (oi := { dst := some 8, op := Go.Op.move (Go.Operand.tmp 7), type := 4, pos := "wtype.go:172", after := #[{ on := 1, ground := Go.Ground.data }], guard := none }) (v := ?_) rfl (by kernel_rfl) (by kernel_rfl) (by kernel_rfl) (fun _ _ _ h => h) (Or.inl ⟨by rfl, ?hy2b⟩) (by assumption) ?rest2b
    case hy2b => (intro w hSw; (try dsimp only at hSw); go_simp; first | (with_reducible rfl) | (rw [if_neg (by omega)]) | skip)
    simp only [Act.put, List.setIfInBounds_toArray, List.set_cons_zero, List.set_cons_succ]
    refine wpAnyH_take (i := 3) (oi := { dst := some 9, op := Go.Op.load 85 (Go.Operand.global 3), type := 85, pos := "wtype.go:172", after := #[{ on := 2, ground := Go.Ground.guard }], guard := some (2, true) }) (v := undef) rfl (by kernel_rfl) (by kernel_rfl) (by kernel_rfl) (fun _ _ _ h => h) (Or.inr ⟨by rfl, rfl⟩) (by assumption) ?_
    simp only [Act.put, List.setIfInBounds_toArray, List.set_cons_zero, List.set_cons_succ]
    refine wpAnyH_take (i := 4) (oi := { dst := some 10, op := Go.Op.move (Go.Operand.tmp 0), type := 5, pos := "wtype.go:172", after := #[{ on := 2, ground := Go.Ground.guard }], guard := some (2, true) }) (v := undef) rfl (by kernel_rfl) (by kernel_rfl) (by kernel_rfl) (fun _ _ _ h => h) (Or.inr ⟨by rfl, rfl⟩) (by assumption) ?_
    simp only [Act.put, List.setIfInBounds_toArray, List.set_cons_zero, List.set_cons_succ]
    refine wpAnyH_take (i := 5) (oi := { dst := some 11, op := Go.Op.convert 5 3 (Go.Operand.tmp 10), type := 3, pos := "wtype.go:172", after := #[{ on := 4, ground := Go.Ground.data }, { on := 2, ground := Go.Ground.guard }], guard := some (2, true) }) (v := undef) rfl (by kernel_rfl) (by kernel_rfl) (by kernel_rfl) (fun _ _ _ h => h) (Or.inr ⟨by rfl, rfl⟩) (by assumption) ?_
    simp only [Act.put, List.setIfInBounds_toArray, List.set_cons_zero, List.set_cons_succ]
    refine wpAnyH_take (i := 6) (oi := { dst := some 12, op := Go.Op.binOp Go.BinOp.add 3 (Go.Operand.tmp 11) (Go.Operand.const (Go.Value.int Go.IntKind.i64 1)) 3, type := 3, pos := "wtype.go:172", after := #[{ on := 5, ground := Go.Ground.data }, { on := 2, ground := Go.Ground.guard }], guard := some (2, true) }) (v := undef) rfl (by kernel_rfl) (by kernel_rfl) (by kernel_rfl) (fun _ _ _ h => h) (Or.inr ⟨by rfl, rfl⟩) (by assumption) ?_
    simp only [Act.put, List.setIfInBounds_toArray, List.set_cons_zero, List.set_cons_succ]
    refine wpAnyH_take (i := 7) (oi := { dst := some 13, op := Go.Op.call { callee := Go.Callee.value (Go.Operand.func 138), args := #[Go.Operand.tmp 9, Go.Operand.tmp 12], argTypes := #[85, 3] }, type := 85, pos := "wtype.go:172", after := #[{ on := 3, ground := Go.Ground.data }, { on := 6, ground := Go.Ground.data }, { on := 2, ground := Go.Ground.chain }, { on := 2, ground := Go.Ground.guard }], guard := some (2, true) }) (v := undef) rfl (by kernel_rfl) (by kernel_rfl) (by kernel_rfl) (fun _ _ _ h => h) (Or.inr ⟨by rfl, rfl⟩) (by assumption) ?_
    simp only [Act.put, List.setIfInBounds_toArray, List.set_cons_zero, List.set_cons_succ]
    refine wpAnyH_take (i := 8) (oi := { dst := some 14, op := Go.Op.load 85 (Go.Operand.tmp 2), type := 85, pos := "wtype.go:172", after := #[{ on := 2, ground := Go.Ground.guard }], guard := some (2, true) }) (v := undef) rfl (by kernel_rfl) (by kernel_rfl) (by kernel_rfl) (fun _ _ _ h => h) (Or.inr ⟨by rfl, rfl⟩) (by assumption) ?_
    simp only [Act.put, List.setIfInBounds_toArray, List.set_cons_zero, List.set_cons_succ]
    refine wpAnyH_take (i := 9) (oi := { dst := some 15, op := Go.Op.call { callee := Go.Callee.value (Go.Operand.func 93), args := #[Go.Operand.tmp 13, Go.Operand.tmp 14], argTypes := #[85, 85] }, type := 85, pos := "wtype.go:172", after := #[{ on := 7, ground := Go.Ground.data }, { on := 8, ground := Go.Ground.data }, { on := 7, ground := Go.Ground.chain }, { on := 2, ground := Go.Ground.guard }], guard := some (2, true) }) (v := undef) rfl (by kernel_rfl) (by kernel_rfl) (by kernel_rfl) (fun _ _ _ h => h) (Or.inr ⟨by rfl, rfl⟩) (by assumption) ?_
    simp only [Act.put, List.setIfInBounds_toArray, List.set_cons_zero, List.set_cons_succ]
    refine wpAnyH_take (i := 10) (oi := { dst := some 16, op := Go.Op.move (Go.Operand.tmp 1), type := 3, pos := "wtype.go:172", after := #[{ on := 2, ground := Go.Ground.guard }], guard := some (2, true) }) (v := undef) rfl (by kernel_rfl) (by kernel_rfl) (by kernel_rfl) (fun _ _ _ h => h) (Or.inr ⟨by rfl, rfl⟩) (by assumption) ?_
    simp only [Act.put, List.setIfInBounds_toArray, List.set_cons_zero, List.set_cons_succ]
    refine wpAnyH_take (i := 11) (oi := { dst := some 17, op := Go.Op.call { callee := Go.Callee.value (Go.Operand.func 96), args := #[Go.Operand.tmp 15, Go.Operand.tmp 16], argTypes := #[85, 3] }, type := 4, pos := "wtype.go:172", after := #[{ on := 9, ground := Go.Ground.data }, { on := 10, ground := Go.Ground.data }, { on := 9, ground := Go.Ground.chain }, { on := 2, ground := Go.Ground.guard }], guard := some (2, true) }) (v := undef) rfl (by kernel_rfl) (by kernel_rfl) (by kernel_rfl) (fun _ _ _ h => h) (Or.inr ⟨by rfl, rfl⟩) (by assumption) ?_
    simp only [Act.put, List.setIfInBounds_toArray, List.set_cons_zero, List.set_cons_succ]
    refine wpAnyH_take (i := 12) (oi := { dst := some 18, op := Go.Op.pick (Go.Operand.tmp 8) (Go.Operand.tmp 17) (Go.Operand.const (Go.Value.bool false)), type := 4, pos := "wtype.go:172", after := #[{ on := 2, ground := Go.Ground.data }, { on := 11, ground := Go.Ground.data }], guard := none }) (v := ?_) rfl (by kernel_rfl) (by kernel_rfl) (by kernel_rfl) (fun _ _ _ h => h) (Or.inl ⟨by rfl, ?hy12b⟩) (by assumption) ?rest12b
    case hy12b => (intro w hSw; (try dsimp only at hSw); go_simp; first | (with_reducible rfl) | (rw [if_neg (by omega)]) | skip)
    simp only [Act.put, List.setIfInBounds_toArray, List.set_cons_zero, List.set_cons_succ]
    refine wpAnyH_take (i := 13) (oi := { dst := some 5, op := Go.Op.assign (Go.Operand.tmp 18), type := 4, pos := "wtype.go:172", after := #[{ on := 12, ground := Go.Ground.data }, { on := 11, ground := Go.Ground.chain }, { on := 0, ground := Go.Ground.phase }, { on := 1, ground := Go.Ground.phase }, { on := 2, ground := Go.Ground.phase }, { on := 3, ground := Go.Ground.phase }, { on := 4, ground := Go.Ground.phase }, { on := 5, ground := Go.Ground.phase }, { on := 6, ground := Go.Ground.phase }, { on := 7, ground := Go.Ground.phase }, { on := 8, ground := Go.Ground.phase }, { on := 9, ground := Go.Ground.phase }, { on := 10, ground := Go.Ground.phase }, { on := 11, ground := Go.Ground.phase }, { on := 12, ground := Go.Ground.phase }], guard := none }) (v := ?_) rfl (by kernel_rfl) (by kernel_rfl) (by kernel_rfl) (fun _ _ _ h => h) (Or.inl ⟨by rfl, ?hy13b⟩) (by assumption) ?rest13b
    case hy13b => (intro w hSw; (try dsimp only at hSw); go_simp; first | (with_reducible rfl) | (rw [if_neg (by omega)]) | skip)
    simp only [Act.put, List.setIfInBounds_toArray, List.set_cons_zero, List.set_cons_succ]
    refine wpAnyH_done (by kernel_rfl) ?_ _
    refine NoPanic.normal ?_
    go_wp2_with fail
    go_ret
    exact ⟨ret_bool (by rw [limB, decide_eq_false (by omega)]; rfl), hHeld⟩
end Go.Proofs.YtiohiiekaofkbaaDoor
