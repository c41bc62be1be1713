/- The cursor: the next number with a sign (what it is is not kept: any). -/
import Derived.Test.YtiohiiekaofkbaaDoorC5
import Derived.Test.YtiohiiekaofkbaaDoorD0
import Derived.Test.YtiohiiekaofkbaaDoorD2
namespace Go.Proofs.YtiohiiekaofkbaaDoor
set_option linter.unusedVariables false
set_option linter.unusedSimpArgs false
open Go.RowKit

/-- where a number with a sign ends; k + 1 bytes more at most, m digits ahead of the last -/
def sM (n a b : Int) (m : Nat) (l : List Int) (lim : Int) : Nat → Int → Except (Int × Int) Int
  | 0, p => .ok p
  | k + 1, p => match nextR l p lim with
    | .error s => .error s
    | .ok x =>
      if 128 ≤ x then if k ≠ 0 ∧ reachN a b (p + 1) lim k = true then sM n a b m l lim k (p + 1) else .error (p, 2)
      else if (k ≠ 0 ∨ sgB x (n - 7 * (m : Int)) = true) ∧ chB a b (rest (p + 1) lim) = true then .ok (p + 1) else .error (p, 2)
/-- an ending that tells an integer, or gives up -/
def PostI (g : Nat) (A : Option Addr) (c : Nat) (l : List Int) (lim : Int) (w : World) (r : Except (Int × Int) Int) (e : Ending) (w' : World) : Prop :=
  match r with
  | .ok p' => (∃ v, e = .returned (.int .i64 v)) ∧ CB g A c l p' lim w' ∧ Rd g w w'
  | .error s => Stops s.1 s.2 e ∧ Rd g w w'
theorem sM_step {n a b : Int} {m : Nat} {l : List Int} {lim q x : Int} {i j : Nat} (hij : i + j = m) (hx : nextR l q lim = .ok x) :
    sM n a b m l lim (m + 1 - i) q = if 128 ≤ x then if j ≠ 0 ∧ reachN a b (q + 1) lim j = true then sM n a b m l lim (m + 1 - (i + 1)) (q + 1) else .error (q, 2)
      else if (j ≠ 0 ∨ sgB x (n - 7 * (m : Int)) = true) ∧ chB a b (rest (q + 1) lim) = true then .ok (q + 1) else .error (q, 2) := by
  have e1 : m + 1 - i = j + 1 := by omega
  have e2 : m + 1 - (i + 1) = j := by omega
  rw [e1, e2, sM, hx]
theorem sM_stop {n a b : Int} {m : Nat} {l : List Int} {lim q : Int} {i : Nat} {s : Int × Int} (hij : i ≤ m) (hx : nextR l q lim = .error s) : sM n a b m l lim (m + 1 - i) q = .error s := by
  have e1 : m + 1 - i = (m - i) + 1 := by omega
  rw [e1, sM, hx]
theorem keep5 {g B : Nat} {x y z : Value} {w0 W W' : World} {n : Nat} (h : W.cell? ⟨g, 1, none⟩ = some x ∧ W.cell? ⟨B, 0, none⟩ = some y ∧ W.cell? ⟨B, 1, none⟩ = some z ∧ Below n w0 W ∧ n ≤ W.heap.size) (hb : Below W.heap.size W W') :
    W'.cell? ⟨g, 1, none⟩ = some x ∧ W'.cell? ⟨B, 0, none⟩ = some y ∧ W'.cell? ⟨B, 1, none⟩ = some z ∧ Below n w0 W' ∧ n ≤ W'.heap.size :=
  ⟨still hb h.1, still hb h.2.1, still hb h.2.2.1, h.2.2.2.1.trans (hb.mono h.2.2.2.2), Nat.le_trans h.2.2.2.2 hb.size⟩

set_option maxRecDepth 100000 in
set_option maxHeartbeats 8000000 in
theorem sint_walk (g : Nat) (A : Option Addr) (c : Nat) (l : List Int) (p lim : Int) (w : World) (n a b : Int) (m : Nat) (h : CB g A c l p lim w) (hn : 1 ≤ n) (hn2 : n ≤ 64) (hm : (n - 1) / 7 = (m : Int)) :
    Calls Tryd.prog 109 #[.pointer (some ⟨g, 0, none⟩), .int .i64 n, .agg #[.int .i64 a, .int .i64 b]] w (PostI g A c l lim w (sM n a b m l lim (m + 1) p)) := by
  have HC := hid h
  have hl := h.hl
  have l1 := h.l2
  have hlt := h.cu.lt
  clear h
  have e1 : min n 64 = n := by omega
  have e2 : max 1 n = n := by omega
  have e3 : (n + 7 - 1).tdiv 7 = (m : Int) + 1 := by rw [Int.tdiv_eq_ediv_of_nonneg (by omega)]; omega
  have e4 : IntKind.i64.wrap (n + 7 - 1) = n + 7 - 1 := by rw [IntKind.wrap_i64]; omega
  go_enter Tryd.func109, Tryd.ntmps109
  go_upto_region 1 with (fail)
  go_cut [1] (fun s1 wx => s1 = .int .i64 n ∧ w.heap.size < wx.heap.size ∧ wx.cell? ⟨w.heap.size, 0, none⟩ = some (.int .i64 a) ∧ wx.cell? ⟨w.heap.size, 1, none⟩ = some (.int .i64 b) ∧ Hid (Below w.heap.size w wx))
  case first =>
    go_wp2
    · go_meet
      exact ⟨rfl, by simp, by go_simp, by go_simp, hid (by repeat (first | exact Below.refl _ _ | assumption | refine Below.alloc ?_ (by first | exact Nat.le_refl _ | (simp; done) | (simp; omega) | omega) _ | refine Below.drew ?_ | refine Below.setCell ?_ (by first | exact Nat.le_refl _ | (simp; done) | (simp; omega) | omega) _ | refine below_call ?_ (by assumption) (by first | exact Nat.le_refl _ | (simp; done) | (simp; omega) | omega)))⟩
    · go_meet
      exact ⟨by rw [show n = 1 by omega], by simp, by go_simp, by go_simp, hid (by repeat (first | exact Below.refl _ _ | assumption | refine Below.alloc ?_ (by first | exact Nat.le_refl _ | (simp; done) | (simp; omega) | omega) _ | refine Below.drew ?_ | refine Below.setCell ?_ (by first | exact Nat.le_refl _ | (simp; done) | (simp; omega) | omega) _ | refine below_call ?_ (by assumption) (by first | exact Nat.le_refl _ | (simp; done) | (simp; omega) | omega)))⟩
  case rest =>
  obtain ⟨rfl, hsz0, b00, b01, HB0⟩ := hcut
  go_wp2
  go_loopw [8, 20] (fun v8 v20 wr => ∃ (i : Nat) (v q : Int), v20 = .int .i64 i ∧ v8 = .int .u64 v ∧ i ≤ m + 1 ∧ Hid (sM n a b m l lim (m + 1) p = sM n a b m l lim (m + 1 - i) q) ∧ w.heap.size < wr.heap.size ∧ wr.cell? ⟨w.heap.size, 0, none⟩ = some (.int .i64 a) ∧ wr.cell? ⟨w.heap.size, 1, none⟩ = some (.int .i64 b) ∧ Hid (CB g A c l q lim wr) ∧ Hid (Rd g w wr)) (fun _ v20 _ => m + 1 - (intOf v20).toNat)
  case atStart => exact ⟨0, 0, p, by go_num, rfl, by omega, hid rfl, hsz0, b00, b01, hid (HC.out.below HB0.out), hid (grown_of_below HB0.out _)⟩
  case round =>
    obtain ⟨i, v, q, rfl, rfl, i4, HU, hsz, b0, b1, HCr, HR⟩ := hrel
    by_cases hend : i = m + 1
    · go_wp2
      go_ret
      show PostI g A c l lim w (sM n a b m l lim (m + 1) p) _ _
      rw [HU.out, hend, Nat.sub_self, sM]
      exact ⟨⟨_, rfl⟩, HCr.out, HR.out⟩
    obtain ⟨j, hij⟩ : ∃ j, i + j = m := ⟨m - i, by omega⟩
    have him : (i : Int) < (m : Int) + 1 := by omega
    have HN := hid (next_walk g A c l q lim wr HCr.out)
    rcases hx : nextR l q lim with s | x
    · have HF := hid (HU.out.trans (sM_stop (by omega) hx))
      have HN2 := HN
      rw [show nextV l q lim = .error s by rw [nextV, hx]] at HN2
      clear hx HN
      go_wp2_with (first | (go_at_call 141; refine HN2.out.mono ?_; rintro e w1 ⟨rfl, HG⟩))
      refine ⟨rfl, ?_⟩
      show PostI g A c l lim w (sM n a b m l lim (m + 1) p) _ _
      rw [HF.out]
      exact ⟨rfl, HR.out.trans HG⟩
    · obtain ⟨hmx, hr0⟩ := next_mem hx
      obtain ⟨x0, x1⟩ := HCr.out.b8 x hmx
      have HF := hid (HU.out.trans (sM_step hij hx))
      have HN2 := HN
      rw [show nextV l q lim = .ok (.int .u8 x, q + 1) by rw [nextV, hx]] at HN2
      clear hx HN hmx
      have hand := and127 x x0 x1
      by_cases h128 : 128 ≤ x
      · go_upto_region 10 with (first | (go_at_call 141; refine HN2.out.mono ?_; rintro e w1 ⟨rfl, HC1, HG⟩; have HC1 := hid HC1))
        have p0 := HCr.out.p0
        have p1 := HC1.out.p1
        have hwq : IntKind.i64.wrap q = q := by rw [IntKind.wrap_i64]; omega
        have hwm : IntKind.i64.wrap (m : Int) = (m : Int) := by rw [IntKind.wrap_i64]; omega
        have hwm1 : IntKind.i64.wrap ((m : Int) + 1 - 1) = (m : Int) := by rw [IntKind.wrap_i64]; omega
        have HWJ := hid (show IntKind.i64.wrap ((m : Int) - i) = (j : Int) by rw [IntKind.wrap_i64]; omega)
        have HR1 := hid (rest_b HC1.out)
        have hbg : w.heap.size ≠ g := by omega
        have b0 := HG.cell hbg b0
        have b1 := HG.cell hbg b1
        have hsz1 := Nat.lt_of_lt_of_le hsz HG.size
        obtain ⟨c0, c1, c2, f1, f2⟩ := HC1.out.cu
        have S0 : w1.cell? ⟨g, 1, none⟩ = some (.int .i64 (q + 1)) ∧ w1.cell? ⟨w.heap.size, 0, none⟩ = some (.int .i64 a) ∧ w1.cell? ⟨w.heap.size, 1, none⟩ = some (.int .i64 b) ∧ Below w1.heap.size w1 w1 ∧ w1.heap.size ≤ w1.heap.size := ⟨c1, b0, b1, Below.refl _ _, Nat.le_refl _⟩
        clear c0 c1 c2
        by_cases hj : j = 0
        · have HF2 := hid (HF.out.trans (by rw [if_pos h128, if_neg (by rw [hj]; simp)]))
          have hi4 : ¬ (i : Int) < (m : Int) := by omega
          clear HF
          refine wp_region_held_drew (S := (fun W => W.cell? ⟨g, 1, none⟩ = some (.int .i64 (q + 1)) ∧ W.cell? ⟨w.heap.size, 0, none⟩ = some (.int .i64 a) ∧ W.cell? ⟨w.heap.size, 1, none⟩ = some (.int .i64 b) ∧ Below w1.heap.size w1 W ∧ w1.heap.size ≤ W.heap.size)) (by kernel_rfl) ?hSa1 (fun hHeld => ?goa1)
          case hSa1 => first | exact hHeld | exact keep5 hHeld (by assumption) | exact keep5 hHeld (below_drewN _ _) | exact keep5 S0 (below_drewN w1 _) | exact keep5 S0 (Below.drew (Below.refl _ _))
          refine wpAnyH_take (i := 0) (oi := { dst := some 35, op := Go.Op.move (Go.Operand.tmp 9), type := 3, pos := "cursor.go:173", after := #[], guard := none }) (v := ?_) rfl (by kernel_rfl) (by kernel_rfl) (by kernel_rfl) (fun _ _ _ h => h) (Or.inl ⟨by rfl, ?hya2⟩) (by assumption) ?resta2
          case hya2 => (intro w hSw; (try dsimp only at hSw); go_simp; first | (with_reducible rfl) | (rw [if_neg (by omega)]) | skip)
          simp only [Act.put, List.setIfInBounds_toArray, List.set_cons_zero, List.set_cons_succ]
          refine wpAnyH_take (i := 1) (oi := { dst := some 36, op := Go.Op.move (Go.Operand.tmp 7), type := 3, pos := "cursor.go:173", after := #[], guard := none }) (v := ?_) rfl (by kernel_rfl) (by kernel_rfl) (by kernel_rfl) (fun _ _ _ h => h) (Or.inl ⟨by rfl, ?hya3⟩) (by assumption) ?resta3
          case hya3 => (intro w hSw; (try dsimp only at hSw); go_simp; first | (with_reducible rfl) | (rw [if_neg (by omega)]) | skip)
          simp only [Act.put, List.setIfInBounds_toArray, List.set_cons_zero, List.set_cons_succ]
          refine wpAnyH_take (i := 2) (oi := { dst := some 37, op := Go.Op.binOp Go.BinOp.sub 3 (Go.Operand.tmp 36) (Go.Operand.const (Go.Value.int Go.IntKind.i64 1)) 3, type := 3, pos := "cursor.go:173", after := #[{ on := 1, ground := Go.Ground.data }], guard := none }) (v := ?_) rfl (by kernel_rfl) (by kernel_rfl) (by kernel_rfl) (fun _ _ _ h => h) (Or.inl ⟨by rfl, ?hya4⟩) (by assumption) ?resta4
          case hya4 => (intro w hSw; (try dsimp only at hSw); go_simp; first | (with_reducible rfl) | (rw [if_neg (by omega)]) | skip)
          simp only [Act.put, List.setIfInBounds_toArray, List.set_cons_zero, List.set_cons_succ]
          refine wpAnyH_take (i := 3) (oi := { dst := some 38, op := Go.Op.binOp Go.BinOp.lss 3 (Go.Operand.tmp 35) (Go.Operand.tmp 37) 3, type := 4, pos := "cursor.go:173", after := #[{ on := 0, ground := Go.Ground.data }, { on := 2, ground := Go.Ground.data }], guard := none }) (v := ?_) rfl (by kernel_rfl) (by kernel_rfl) (by kernel_rfl) (fun _ _ _ h => h) (Or.inl ⟨by rfl, ?hya5⟩) (by assumption) ?resta5
          case hya5 => (intro w hSw; (try dsimp only at hSw); go_simp; first | (with_reducible rfl) | (rw [if_neg (by omega)]) | skip)
          simp only [Act.put, List.setIfInBounds_toArray, List.set_cons_zero, List.set_cons_succ]
          refine wpAnyH_take (i := 4) (oi := { dst := some 39, op := Go.Op.move (Go.Operand.tmp 38), type := 4, pos := "cursor.go:173", after := #[{ on := 3, ground := Go.Ground.data }], guard := none }) (v := ?_) rfl (by kernel_rfl) (by kernel_rfl) (by kernel_rfl) (fun _ _ _ h => h) (Or.inl ⟨by rfl, ?hya6⟩) (by assumption) ?resta6
          case hya6 => (intro w hSw; (try dsimp only at hSw); go_simp; first | (with_reducible rfl) | (rw [if_neg (by omega)]) | skip)
          simp only [Act.put, List.setIfInBounds_toArray, List.set_cons_zero, List.set_cons_succ]
          refine wpAnyH_take (i := 5) (oi := { dst := some 40, op := Go.Op.move (Go.Operand.tmp 0), type := 81, pos := "cursor.go:173", after := #[{ on := 4, ground := Go.Ground.guard }], guard := some (4, true) }) (v := undef) rfl (by kernel_rfl) (by kernel_rfl) (by kernel_rfl) (fun _ _ _ h => h) (Or.inr ⟨by rfl, rfl⟩) (by assumption) ?_
          simp only [Act.put, List.setIfInBounds_toArray, List.set_cons_zero, List.set_cons_succ]
          refine wpAnyH_take (i := 6) (oi := { dst := some 41, op := Go.Op.load 85 (Go.Operand.tmp 5), type := 85, pos := "cursor.go:173", after := #[{ on := 4, ground := Go.Ground.guard }], guard := some (4, true) }) (v := undef) rfl (by kernel_rfl) (by kernel_rfl) (by kernel_rfl) (fun _ _ _ h => h) (Or.inr ⟨by rfl, rfl⟩) (by assumption) ?_
          simp only [Act.put, List.setIfInBounds_toArray, List.set_cons_zero, List.set_cons_succ]
          refine wpAnyH_take (i := 7) (oi := { dst := some 42, op := Go.Op.move (Go.Operand.tmp 7), type := 3, pos := "cursor.go:173", after := #[{ on := 4, ground := Go.Ground.guard }], guard := some (4, true) }) (v := undef) rfl (by kernel_rfl) (by kernel_rfl) (by kernel_rfl) (fun _ _ _ h => h) (Or.inr ⟨by rfl, rfl⟩) (by assumption) ?_
          simp only [Act.put, List.setIfInBounds_toArray, List.set_cons_zero, List.set_cons_succ]
          refine wpAnyH_take (i := 8) (oi := { dst := some 43, op := Go.Op.binOp Go.BinOp.sub 3 (Go.Operand.tmp 42) (Go.Operand.const (Go.Value.int Go.IntKind.i64 1)) 3, type := 3, pos := "cursor.go:173", after := #[{ on := 7, ground := Go.Ground.data }, { on := 4, ground := Go.Ground.guard }], guard := some (4, true) }) (v := undef) rfl (by kernel_rfl) (by kernel_rfl) (by kernel_rfl) (fun _ _ _ h => h) (Or.inr ⟨by rfl, rfl⟩) (by assumption) ?_
          simp only [Act.put, List.setIfInBounds_toArray, List.set_cons_zero, List.set_cons_succ]
          refine wpAnyH_take (i := 9) (oi := { dst := some 44, op := Go.Op.move (Go.Operand.tmp 9), type := 3, pos := "cursor.go:173", after := #[{ on := 4, ground := Go.Ground.guard }], guard := some (4, true) }) (v := undef) rfl (by kernel_rfl) (by kernel_rfl) (by kernel_rfl) (fun _ _ _ h => h) (Or.inr ⟨by rfl, rfl⟩) (by assumption) ?_
          simp only [Act.put, List.setIfInBounds_toArray, List.set_cons_zero, List.set_cons_succ]
          refine wpAnyH_take (i := 10) (oi := { dst := some 45, op := Go.Op.binOp Go.BinOp.sub 3 (Go.Operand.tmp 43) (Go.Operand.tmp 44) 3, type := 3, pos := "cursor.go:173", after := #[{ on := 8, ground := Go.Ground.data }, { on := 9, ground := Go.Ground.data }, { on := 4, ground := Go.Ground.guard }], guard := some (4, true) }) (v := undef) rfl (by kernel_rfl) (by kernel_rfl) (by kernel_rfl) (fun _ _ _ h => h) (Or.inr ⟨by rfl, rfl⟩) (by assumption) ?_
          simp only [Act.put, List.setIfInBounds_toArray, List.set_cons_zero, List.set_cons_succ]
          refine wpAnyH_take (i := 11) (oi := { dst := some 46, op := Go.Op.call { callee := Go.Callee.value (Go.Operand.func 150), args := #[Go.Operand.tmp 40, Go.Operand.tmp 41, Go.Operand.tmp 45], argTypes := #[81, 85, 3] }, type := 4, pos := "cursor.go:173", after := #[{ on := 5, ground := Go.Ground.data }, { on := 6, ground := Go.Ground.data }, { on := 10, ground := Go.Ground.data }, { on := 4, ground := Go.Ground.chain }, { on := 4, ground := Go.Ground.guard }], guard := some (4, true) }) (v := undef) rfl (by kernel_rfl) (by kernel_rfl) (by kernel_rfl) (fun _ _ _ h => h) (Or.inr ⟨by rfl, rfl⟩) (by assumption) ?_
          simp only [Act.put, List.setIfInBounds_toArray, List.set_cons_zero, List.set_cons_succ]
          refine wpAnyH_take (i := 12) (oi := { dst := some 47, op := Go.Op.pick (Go.Operand.tmp 39) (Go.Operand.tmp 46) (Go.Operand.const (Go.Value.bool false)), type := 4, pos := "cursor.go:173", after := #[{ on := 4, ground := Go.Ground.data }, { on := 11, ground := Go.Ground.data }], guard := none }) (v := ?_) rfl (by kernel_rfl) (by kernel_rfl) (by kernel_rfl) (fun _ _ _ h => h) (Or.inl ⟨by rfl, ?hya7⟩) (by assumption) ?resta7
          case hya7 => (intro w hSw; (try dsimp only at hSw); go_simp; first | (with_reducible rfl) | (rw [if_neg (by omega)]) | skip)
          simp only [Act.put, List.setIfInBounds_toArray, List.set_cons_zero, List.set_cons_succ]
          refine wpAnyH_take (i := 13) (oi := { dst := some 48, op := Go.Op.move (Go.Operand.tmp 0), type := 81, pos := "cursor.go:173", after := #[], guard := none }) (v := ?_) rfl (by kernel_rfl) (by kernel_rfl) (by kernel_rfl) (fun _ _ _ h => h) (Or.inl ⟨by rfl, ?hya8⟩) (by assumption) ?resta8
          case hya8 => (intro w hSw; (try dsimp only at hSw); go_simp; first | (with_reducible rfl) | (rw [if_neg (by omega)]) | skip)
          simp only [Act.put, List.setIfInBounds_toArray, List.set_cons_zero, List.set_cons_succ]
          refine wpAnyH_take (i := 14) (oi := { dst := some 49, op := Go.Op.nilCheck (Go.Operand.tmp 48), type := 0, pos := "cursor.go:173", after := #[{ on := 13, ground := Go.Ground.data }], guard := none }) (v := ?_) rfl (by kernel_rfl) (by kernel_rfl) (by kernel_rfl) (fun _ _ _ h => h) (Or.inl ⟨by rfl, ?hya9⟩) (by assumption) ?resta9
          case hya9 => (intro w hSw; (try dsimp only at hSw); go_simp; first | (with_reducible rfl) | (rw [if_neg (by omega)]) | skip)
          simp only [Act.put, List.setIfInBounds_toArray, List.set_cons_zero, List.set_cons_succ]
          refine wpAnyH_take (i := 15) (oi := { dst := some 50, op := Go.Op.fieldAddr 136 (Go.Operand.tmp 49) 1, type := 0, pos := "cursor.go:173", after := #[{ on := 14, ground := Go.Ground.data }], guard := none }) (v := ?_) rfl (by kernel_rfl) (by kernel_rfl) (by kernel_rfl) (fun _ _ _ h => h) (Or.inl ⟨by rfl, ?hya10⟩) (by assumption) ?resta10
          case hya10 => (intro w hSw; (try dsimp only at hSw); go_simp; first | (with_reducible rfl) | (rw [if_neg (by omega)]) | skip)
          simp only [Act.put, List.setIfInBounds_toArray, List.set_cons_zero, List.set_cons_succ]
          refine wpAnyH_take (i := 16) (oi := { dst := some 51, op := Go.Op.load 3 (Go.Operand.tmp 50), type := 3, pos := "cursor.go:173", after := #[{ on := 15, ground := Go.Ground.data }], guard := none }) (v := ?_) rfl (by kernel_rfl) (by kernel_rfl) (by kernel_rfl) (fun _ _ _ h => h) (Or.inl ⟨by rfl, ?hya11⟩) (by assumption) ?resta11
          case hya11 => (intro w hSw; (try dsimp only at hSw); go_simp; first | (with_reducible rfl) | (rw [if_neg (by omega)]) | skip)
          simp only [Act.put, List.setIfInBounds_toArray, List.set_cons_zero, List.set_cons_succ]
          refine wpAnyH_take (i := 17) (oi := { dst := some 52, op := Go.Op.binOp Go.BinOp.sub 3 (Go.Operand.tmp 51) (Go.Operand.const (Go.Value.int Go.IntKind.i64 1)) 3, type := 3, pos := "cursor.go:173", after := #[{ on := 16, ground := Go.Ground.data }], guard := none }) (v := ?_) rfl (by kernel_rfl) (by kernel_rfl) (by kernel_rfl) (fun _ _ _ h => h) (Or.inl ⟨by rfl, ?hya12⟩) (by assumption) ?resta12
          case hya12 => (intro w hSw; (try dsimp only at hSw); go_simp; first | (with_reducible rfl) | (rw [if_neg (by omega)]) | skip)
          simp only [Act.put, List.setIfInBounds_toArray, List.set_cons_zero, List.set_cons_succ]
          refine wpAnyH_ready (rs := [18]) (by kernel_rfl) (by simp) ?_
          refine AllReadyH.cons (o := { dst := some 53, op := Go.Op.call { callee := Go.Callee.value (Go.Operand.func 92), args := #[Go.Operand.tmp 47, Go.Operand.tmp 52], argTypes := #[4, 3] }, type := 0, pos := "cursor.go:173", after := #[{ on := 12, ground := Go.Ground.data }, { on := 17, ground := Go.Ground.data }, { on := 11, ground := Go.Ground.chain }], guard := none }) rfl (fun K hK => ?_) AllReadyH.nil
          go_simp
          (try rw [hwq]); go_at_call 92; (with_reducible refine (need_no q _).mono ?_); rintro e w3 ⟨rfl, rfl⟩; refine ⟨rfl, ?_⟩; show PostI g A c l lim w (sM n a b m l lim (m + 1) p) _ _; rw [HF2.out]; exact ⟨rfl, HR.out.trans (HG.trans (grown_of_below hHeld.2.2.2.1 _))⟩
        · have hi4 : (i : Int) < (m : Int) := by omega
          rcases ho : reachN a b (q + 1) lim j with _ | _
          · have HF2 := hid (HF.out.trans (by rw [if_pos h128, if_neg (by rw [ho]; simp)]))
            have HOO := hid ho
            clear HF ho
            refine wp_region_held_drew (S := (fun W => W.cell? ⟨g, 1, none⟩ = some (.int .i64 (q + 1)) ∧ W.cell? ⟨w.heap.size, 0, none⟩ = some (.int .i64 a) ∧ W.cell? ⟨w.heap.size, 1, none⟩ = some (.int .i64 b) ∧ Below w1.heap.size w1 W ∧ w1.heap.size ≤ W.heap.size)) (by kernel_rfl) ?hSb1 (fun hHeld => ?gob1)
            case hSb1 => first | exact hHeld | exact keep5 hHeld (by assumption) | exact keep5 hHeld (below_drewN _ _) | exact keep5 S0 (below_drewN w1 _) | exact keep5 S0 (Below.drew (Below.refl _ _))
            refine wpAnyH_take (i := 0) (oi := { dst := some 35, op := Go.Op.move (Go.Operand.tmp 9), type := 3, pos := "cursor.go:173", after := #[], guard := none }) (v := ?_) rfl (by kernel_rfl) (by kernel_rfl) (by kernel_rfl) (fun _ _ _ h => h) (Or.inl ⟨by rfl, ?hyb2⟩) (by assumption) ?restb2
            case hyb2 => (intro w hSw; (try dsimp only at hSw); go_simp; first | (with_reducible rfl) | (rw [if_neg (by omega)]) | skip)
            simp only [Act.put, List.setIfInBounds_toArray, List.set_cons_zero, List.set_cons_succ]
            refine wpAnyH_take (i := 1) (oi := { dst := some 36, op := Go.Op.move (Go.Operand.tmp 7), type := 3, pos := "cursor.go:173", after := #[], guard := none }) (v := ?_) rfl (by kernel_rfl) (by kernel_rfl) (by kernel_rfl) (fun _ _ _ h => h) (Or.inl ⟨by rfl, ?hyb3⟩) (by assumption) ?restb3
            case hyb3 => (intro w hSw; (try dsimp only at hSw); go_simp; first | (with_reducible rfl) | (rw [if_neg (by omega)]) | skip)
            simp only [Act.put, List.setIfInBounds_toArray, List.set_cons_zero, List.set_cons_succ]
            refine wpAnyH_take (i := 2) (oi := { dst := some 37, op := Go.Op.binOp Go.BinOp.sub 3 (Go.Operand.tmp 36) (Go.Operand.const (Go.Value.int Go.IntKind.i64 1)) 3, type := 3, pos := "cursor.go:173", after := #[{ on := 1, ground := Go.Ground.data }], guard := none }) (v := ?_) rfl (by kernel_rfl) (by kernel_rfl) (by kernel_rfl) (fun _ _ _ h => h) (Or.inl ⟨by rfl, ?hyb4⟩) (by assumption) ?restb4
            case hyb4 => (intro w hSw; (try dsimp only at hSw); go_simp; first | (with_reducible rfl) | (rw [if_neg (by omega)]) | skip)
            simp only [Act.put, List.setIfInBounds_toArray, List.set_cons_zero, List.set_cons_succ]
            refine wpAnyH_take (i := 3) (oi := { dst := some 38, op := Go.Op.binOp Go.BinOp.lss 3 (Go.Operand.tmp 35) (Go.Operand.tmp 37) 3, type := 4, pos := "cursor.go:173", after := #[{ on := 0, ground := Go.Ground.data }, { on := 2, ground := Go.Ground.data }], guard := none }) (v := ?_) rfl (by kernel_rfl) (by kernel_rfl) (by kernel_rfl) (fun _ _ _ h => h) (Or.inl ⟨by rfl, ?hyb5⟩) (by assumption) ?restb5
            case hyb5 => (intro w hSw; (try dsimp only at hSw); go_simp; first | (with_reducible rfl) | (rw [if_neg (by omega)]) | skip)
            simp only [Act.put, List.setIfInBounds_toArray, List.set_cons_zero, List.set_cons_succ]
            refine wpAnyH_take (i := 4) (oi := { dst := some 39, op := Go.Op.move (Go.Operand.tmp 38), type := 4, pos := "cursor.go:173", after := #[{ on := 3, ground := Go.Ground.data }], guard := none }) (v := ?_) rfl (by kernel_rfl) (by kernel_rfl) (by kernel_rfl) (fun _ _ _ h => h) (Or.inl ⟨by rfl, ?hyb6⟩) (by assumption) ?restb6
            case hyb6 => (intro w hSw; (try dsimp only at hSw); go_simp; first | (with_reducible rfl) | (rw [if_neg (by omega)]) | skip)
            simp only [Act.put, List.setIfInBounds_toArray, List.set_cons_zero, List.set_cons_succ]
            refine wpAnyH_take (i := 5) (oi := { dst := some 40, op := Go.Op.move (Go.Operand.tmp 0), type := 81, pos := "cursor.go:173", after := #[{ on := 4, ground := Go.Ground.guard }], guard := some (4, true) }) (v := ?_) rfl (by kernel_rfl) (by kernel_rfl) (by kernel_rfl) (fun _ _ _ h => h) (Or.inl ⟨by rfl, ?hyb7⟩) (by assumption) ?restb7
            case hyb7 => (intro w hSw; (try dsimp only at hSw); go_simp; first | (with_reducible rfl) | (rw [if_neg (by omega)]) | skip)
            simp only [Act.put, List.setIfInBounds_toArray, List.set_cons_zero, List.set_cons_succ]
            refine wpAnyH_take (i := 6) (oi := { dst := some 41, op := Go.Op.load 85 (Go.Operand.tmp 5), type := 85, pos := "cursor.go:173", after := #[{ on := 4, ground := Go.Ground.guard }], guard := some (4, true) }) (v := ?_) rfl (by kernel_rfl) (by kernel_rfl) (by kernel_rfl) (fun _ _ _ h => h) (Or.inl ⟨by rfl, ?hyb8⟩) (by assumption) ?restb8
            case hyb8 => (intro w hSw; (try dsimp only at hSw); go_simp; first | (with_reducible rfl) | (rw [if_neg (by omega)]) | skip)
            simp only [Act.put, List.setIfInBounds_toArray, List.set_cons_zero, List.set_cons_succ]
            refine wpAnyH_take (i := 7) (oi := { dst := some 42, op := Go.Op.move (Go.Operand.tmp 7), type := 3, pos := "cursor.go:173", after := #[{ on := 4, ground := Go.Ground.guard }], guard := some (4, true) }) (v := ?_) rfl (by kernel_rfl) (by kernel_rfl) (by kernel_rfl) (fun _ _ _ h => h) (Or.inl ⟨by rfl, ?hyb9⟩) (by assumption) ?restb9
            case hyb9 => (intro w hSw; (try dsimp only at hSw); go_simp; first | (with_reducible rfl) | (rw [if_neg (by omega)]) | skip)
            simp only [Act.put, List.setIfInBounds_toArray, List.set_cons_zero, List.set_cons_succ]
            refine wpAnyH_take (i := 8) (oi := { dst := some 43, op := Go.Op.binOp Go.BinOp.sub 3 (Go.Operand.tmp 42) (Go.Operand.const (Go.Value.int Go.IntKind.i64 1)) 3, type := 3, pos := "cursor.go:173", after := #[{ on := 7, ground := Go.Ground.data }, { on := 4, ground := Go.Ground.guard }], guard := some (4, true) }) (v := ?_) rfl (by kernel_rfl) (by kernel_rfl) (by kernel_rfl) (fun _ _ _ h => h) (Or.inl ⟨by rfl, ?hyb10⟩) (by assumption) ?restb10
            case hyb10 => (intro w hSw; (try dsimp only at hSw); go_simp; first | (with_reducible rfl) | (rw [if_neg (by omega)]) | skip)
            simp only [Act.put, List.setIfInBounds_toArray, List.set_cons_zero, List.set_cons_succ]
            refine wpAnyH_take (i := 9) (oi := { dst := some 44, op := Go.Op.move (Go.Operand.tmp 9), type := 3, pos := "cursor.go:173", after := #[{ on := 4, ground := Go.Ground.guard }], guard := some (4, true) }) (v := ?_) rfl (by kernel_rfl) (by kernel_rfl) (by kernel_rfl) (fun _ _ _ h => h) (Or.inl ⟨by rfl, ?hyb11⟩) (by assumption) ?restb11
            case hyb11 => (intro w hSw; (try dsimp only at hSw); go_simp; first | (with_reducible rfl) | (rw [if_neg (by omega)]) | skip)
            simp only [Act.put, List.setIfInBounds_toArray, List.set_cons_zero, List.set_cons_succ]
            refine wpAnyH_take (i := 10) (oi := { dst := some 45, op := Go.Op.binOp Go.BinOp.sub 3 (Go.Operand.tmp 43) (Go.Operand.tmp 44) 3, type := 3, pos := "cursor.go:173", after := #[{ on := 8, ground := Go.Ground.data }, { on := 9, ground := Go.Ground.data }, { on := 4, ground := Go.Ground.guard }], guard := some (4, true) }) (v := ?_) rfl (by kernel_rfl) (by kernel_rfl) (by kernel_rfl) (fun _ _ _ h => h) (Or.inl ⟨by rfl, ?hyb12⟩) (by assumption) ?restb12
            case hyb12 => (intro w hSw; (try dsimp only at hSw); go_simp; first | (with_reducible rfl) | (rw [if_neg (by omega)]) | skip)
            simp only [Act.put, List.setIfInBounds_toArray, List.set_cons_zero, List.set_cons_succ]
            refine wpAnyH_take (i := 13) (oi := { dst := some 48, op := Go.Op.move (Go.Operand.tmp 0), type := 81, pos := "cursor.go:173", after := #[], guard := none }) (v := ?_) rfl (by kernel_rfl) (by kernel_rfl) (by kernel_rfl) (fun _ _ _ h => h) (Or.inl ⟨by rfl, ?hyb13⟩) (by assumption) ?restb13
            case hyb13 => (intro w hSw; (try dsimp only at hSw); go_simp; first | (with_reducible rfl) | (rw [if_neg (by omega)]) | skip)
            simp only [Act.put, List.setIfInBounds_toArray, List.set_cons_zero, List.set_cons_succ]
            refine wpAnyH_take (i := 14) (oi := { dst := some 49, op := Go.Op.nilCheck (Go.Operand.tmp 48), type := 0, pos := "cursor.go:173", after := #[{ on := 13, ground := Go.Ground.data }], guard := none }) (v := ?_) rfl (by kernel_rfl) (by kernel_rfl) (by kernel_rfl) (fun _ _ _ h => h) (Or.inl ⟨by rfl, ?hyb14⟩) (by assumption) ?restb14
            case hyb14 => (intro w hSw; (try dsimp only at hSw); go_simp; first | (with_reducible rfl) | (rw [if_neg (by omega)]) | skip)
            simp only [Act.put, List.setIfInBounds_toArray, List.set_cons_zero, List.set_cons_succ]
            refine wpAnyH_take (i := 15) (oi := { dst := some 50, op := Go.Op.fieldAddr 136 (Go.Operand.tmp 49) 1, type := 0, pos := "cursor.go:173", after := #[{ on := 14, ground := Go.Ground.data }], guard := none }) (v := ?_) rfl (by kernel_rfl) (by kernel_rfl) (by kernel_rfl) (fun _ _ _ h => h) (Or.inl ⟨by rfl, ?hyb15⟩) (by assumption) ?restb15
            case hyb15 => (intro w hSw; (try dsimp only at hSw); go_simp; first | (with_reducible rfl) | (rw [if_neg (by omega)]) | skip)
            simp only [Act.put, List.setIfInBounds_toArray, List.set_cons_zero, List.set_cons_succ]
            refine wpAnyH_take (i := 16) (oi := { dst := some 51, op := Go.Op.load 3 (Go.Operand.tmp 50), type := 3, pos := "cursor.go:173", after := #[{ on := 15, ground := Go.Ground.data }], guard := none }) (v := ?_) rfl (by kernel_rfl) (by kernel_rfl) (by kernel_rfl) (fun _ _ _ h => h) (Or.inl ⟨by rfl, ?hyb16⟩) (by assumption) ?restb16
            case hyb16 => (intro w hSw; (try dsimp only at hSw); go_simp; first | (with_reducible rfl) | (rw [if_neg (by omega)]) | skip)
            simp only [Act.put, List.setIfInBounds_toArray, List.set_cons_zero, List.set_cons_succ]
            refine wpAnyH_take (i := 17) (oi := { dst := some 52, op := Go.Op.binOp Go.BinOp.sub 3 (Go.Operand.tmp 51) (Go.Operand.const (Go.Value.int Go.IntKind.i64 1)) 3, type := 3, pos := "cursor.go:173", after := #[{ on := 16, ground := Go.Ground.data }], guard := none }) (v := ?_) rfl (by kernel_rfl) (by kernel_rfl) (by kernel_rfl) (fun _ _ _ h => h) (Or.inl ⟨by rfl, ?hyb17⟩) (by assumption) ?restb17
            case hyb17 => (intro w hSw; (try dsimp only at hSw); go_simp; first | (with_reducible rfl) | (rw [if_neg (by omega)]) | skip)
            simp only [Act.put, List.setIfInBounds_toArray, List.set_cons_zero, List.set_cons_succ]
            refine wpAnyH_ready (rs := [11]) (by kernel_rfl) (by simp) ?_
            refine AllReadyH.cons (o := { dst := some 46, op := Go.Op.call { callee := Go.Callee.value (Go.Operand.func 150), args := #[Go.Operand.tmp 40, Go.Operand.tmp 41, Go.Operand.tmp 45], argTypes := #[81, 85, 3] }, type := 4, pos := "cursor.go:173", after := #[{ on := 5, ground := Go.Ground.data }, { on := 6, ground := Go.Ground.data }, { on := 10, ground := Go.Ground.data }, { on := 4, ground := Go.Ground.chain }, { on := 4, ground := Go.Ground.guard }], guard := some (4, true) }) rfl (fun K hK => ?_) AllReadyH.nil
            go_simp
            (try rw [HWJ.out]); go_at_call 150; (with_reducible refine (reach_walk g A c l (q + 1) lim _ a b j (HC1.out.below hHeld.2.2.2.1) (by omega)).mono ?_); rintro e w4 ⟨he, hb4⟩; rw [HOO.out] at he; subst he
            refine hK.out _ _ ?_ (fun hHeld => ?_)
            · (try dsimp only); first | exact hHeld | exact keep5 hHeld (by assumption) | exact keep5 hHeld (below_drewN _ _) | exact keep5 S0 (below_drewN w1 _) | exact keep5 S0 (Below.drew (Below.refl _ _))
            clear hK K
            try simp only [Act.put, List.setIfInBounds_toArray, List.set_cons_zero, List.set_cons_succ]
            refine wpAnyH_take (i := 12) (oi := { dst := some 47, op := Go.Op.pick (Go.Operand.tmp 39) (Go.Operand.tmp 46) (Go.Operand.const (Go.Value.bool false)), type := 4, pos := "cursor.go:173", after := #[{ on := 4, ground := Go.Ground.data }, { on := 11, ground := Go.Ground.data }], guard := none }) (v := ?_) rfl (by kernel_rfl) (by kernel_rfl) (by kernel_rfl) (fun _ _ _ h => h) (Or.inl ⟨by rfl, ?hyb18⟩) (by assumption) ?restb18
            case hyb18 => (intro w hSw; (try dsimp only at hSw); go_simp; first | (with_reducible rfl) | (rw [if_neg (by omega)]) | skip)
            simp only [Act.put, List.setIfInBounds_toArray, List.set_cons_zero, List.set_cons_succ]
            refine wpAnyH_ready (rs := [18]) (by kernel_rfl) (by simp) ?_
            refine AllReadyH.cons (o := { dst := some 53, op := Go.Op.call { callee := Go.Callee.value (Go.Operand.func 92), args := #[Go.Operand.tmp 47, Go.Operand.tmp 52], argTypes := #[4, 3] }, type := 0, pos := "cursor.go:173", after := #[{ on := 12, ground := Go.Ground.data }, { on := 17, ground := Go.Ground.data }, { on := 11, ground := Go.Ground.chain }], guard := none }) rfl (fun K hK => ?_) AllReadyH.nil
            go_simp
            (try rw [hwq]); go_at_call 92; (with_reducible refine (need_no q _).mono ?_); rintro e w3 ⟨rfl, rfl⟩; refine ⟨rfl, ?_⟩; show PostI g A c l lim w (sM n a b m l lim (m + 1) p) _ _; rw [HF2.out]; exact ⟨rfl, HR.out.trans (HG.trans (grown_of_below hHeld.2.2.2.1 _))⟩
          · have HF2 := hid (HF.out.trans (by rw [if_pos h128, if_pos ⟨hj, ho⟩]))
            have HOO := hid ho
            clear HF ho
            refine wp_region_noPanic ?_
            refine wp_region_held_drew (S := (fun W => W.cell? ⟨g, 1, none⟩ = some (.int .i64 (q + 1)) ∧ W.cell? ⟨w.heap.size, 0, none⟩ = some (.int .i64 a) ∧ W.cell? ⟨w.heap.size, 1, none⟩ = some (.int .i64 b) ∧ Below w1.heap.size w1 W ∧ w1.heap.size ≤ W.heap.size)) (by kernel_rfl) ?hSd (fun hHeld => ?god)
            case hSd => first | exact hHeld | exact keep5 hHeld (by assumption) | exact keep5 hHeld (below_drewN _ _) | exact keep5 S0 (below_drewN w1 _) | exact keep5 S0 (Below.drew (Below.refl _ _))
            refine wpAnyH_take (i := 0) (oi := { dst := some 35, op := Go.Op.move (Go.Operand.tmp 9), type := 3, pos := "cursor.go:173", after := #[], guard := none }) (v := ?_) rfl (by kernel_rfl) (by kernel_rfl) (by kernel_rfl) (fun _ _ _ h => h) (Or.inl ⟨by rfl, ?hy0d⟩) (by assumption) ?rest0d
            case hy0d => (intro w hSw; (try dsimp only at hSw); go_simp; first | (with_reducible rfl) | (rw [if_neg (by omega)]) | skip)
            simp only [Act.put, List.setIfInBounds_toArray, List.set_cons_zero, List.set_cons_succ]
            refine wpAnyH_take (i := 1) (oi := { dst := some 36, op := Go.Op.move (Go.Operand.tmp 7), type := 3, pos := "cursor.go:173", after := #[], guard := none }) (v := ?_) rfl (by kernel_rfl) (by kernel_rfl) (by kernel_rfl) (fun _ _ _ h => h) (Or.inl ⟨by rfl, ?hy1d⟩) (by assumption) ?rest1d
            case hy1d => (intro w hSw; (try dsimp only at hSw); go_simp; first | (with_reducible rfl) | (rw [if_neg (by omega)]) | skip)
            simp only [Act.put, List.setIfInBounds_toArray, List.set_cons_zero, List.set_cons_succ]
            refine wpAnyH_take (i := 2) (oi := { dst := some 37, op := Go.Op.binOp Go.BinOp.sub 3 (Go.Operand.tmp 36) (Go.Operand.const (Go.Value.int Go.IntKind.i64 1)) 3, type := 3, pos := "cursor.go:173", after := #[{ on := 1, ground := Go.Ground.data }], guard := none }) (v := ?_) rfl (by kernel_rfl) (by kernel_rfl) (by kernel_rfl) (fun _ _ _ h => h) (Or.inl ⟨by rfl, ?hy2d⟩) (by assumption) ?rest2d
            case hy2d => (intro w hSw; (try dsimp only at hSw); go_simp; first | (with_reducible rfl) | (rw [if_neg (by omega)]) | skip)
            simp only [Act.put, List.setIfInBounds_toArray, List.set_cons_zero, List.set_cons_succ]
            refine wpAnyH_take (i := 3) (oi := { dst := some 38, op := Go.Op.binOp Go.BinOp.lss 3 (Go.Operand.tmp 35) (Go.Operand.tmp 37) 3, type := 4, pos := "cursor.go:173", after := #[{ on := 0, ground := Go.Ground.data }, { on := 2, ground := Go.Ground.data }], guard := none }) (v := ?_) rfl (by kernel_rfl) (by kernel_rfl) (by kernel_rfl) (fun _ _ _ h => h) (Or.inl ⟨by rfl, ?hy3d⟩) (by assumption) ?rest3d
            case hy3d => (intro w hSw; (try dsimp only at hSw); go_simp; first | (with_reducible rfl) | (rw [if_neg (by omega)]) | skip)
            simp only [Act.put, List.setIfInBounds_toArray, List.set_cons_zero, List.set_cons_succ]
            refine wpAnyH_take (i := 4) (oi := { dst := some 39, op := Go.Op.move (Go.Operand.tmp 38), type := 4, pos := "cursor.go:173", after := #[{ on := 3, ground := Go.Ground.data }], guard := none }) (v := ?_) rfl (by kernel_rfl) (by kernel_rfl) (by kernel_rfl) (fun _ _ _ h => h) (Or.inl ⟨by rfl, ?hy4d⟩) (by assumption) ?rest4d
            case hy4d => (intro w hSw; (try dsimp only at hSw); go_simp; first | (with_reducible rfl) | (rw [if_neg (by omega)]) | skip)
            simp only [Act.put, List.setIfInBounds_toArray, List.set_cons_zero, List.set_cons_succ]
            refine wpAnyH_take (i := 5) (oi := { dst := some 40, op := Go.Op.move (Go.Operand.tmp 0), type := 81, pos := "cursor.go:173", after := #[{ on := 4, ground := Go.Ground.guard }], guard := some (4, true) }) (v := ?_) rfl (by kernel_rfl) (by kernel_rfl) (by kernel_rfl) (fun _ _ _ h => h) (Or.inl ⟨by rfl, ?hy5d⟩) (by assumption) ?rest5d
            case hy5d => (intro w hSw; (try dsimp only at hSw); go_simp; first | (with_reducible rfl) | (rw [if_neg (by omega)]) | skip)
            simp only [Act.put, List.setIfInBounds_toArray, List.set_cons_zero, List.set_cons_succ]
            refine wpAnyH_take (i := 6) (oi := { dst := some 41, op := Go.Op.load 85 (Go.Operand.tmp 5), type := 85, pos := "cursor.go:173", after := #[{ on := 4, ground := Go.Ground.guard }], guard := some (4, true) }) (v := ?_) rfl (by kernel_rfl) (by kernel_rfl) (by kernel_rfl) (fun _ _ _ h => h) (Or.inl ⟨by rfl, ?hy6d⟩) (by assumption) ?rest6d
            case hy6d => (intro w hSw; (try dsimp only at hSw); go_simp; first | (with_reducible rfl) | (rw [if_neg (by omega)]) | skip)
            simp only [Act.put, List.setIfInBounds_toArray, List.set_cons_zero, List.set_cons_succ]
            refine wpAnyH_take (i := 7) (oi := { dst := some 42, op := Go.Op.move (Go.Operand.tmp 7), type := 3, pos := "cursor.go:173", after := #[{ on := 4, ground := Go.Ground.guard }], guard := some (4, true) }) (v := ?_) rfl (by kernel_rfl) (by kernel_rfl) (by kernel_rfl) (fun _ _ _ h => h) (Or.inl ⟨by rfl, ?hy7d⟩) (by assumption) ?rest7d
            case hy7d => (intro w hSw; (try dsimp only at hSw); go_simp; first | (with_reducible rfl) | (rw [if_neg (by omega)]) | skip)
            simp only [Act.put, List.setIfInBounds_toArray, List.set_cons_zero, List.set_cons_succ]
            refine wpAnyH_take (i := 8) (oi := { dst := some 43, op := Go.Op.binOp Go.BinOp.sub 3 (Go.Operand.tmp 42) (Go.Operand.const (Go.Value.int Go.IntKind.i64 1)) 3, type := 3, pos := "cursor.go:173", after := #[{ on := 7, ground := Go.Ground.data }, { on := 4, ground := Go.Ground.guard }], guard := some (4, true) }) (v := ?_) rfl (by kernel_rfl) (by kernel_rfl) (by kernel_rfl) (fun _ _ _ h => h) (Or.inl ⟨by rfl, ?hy8d⟩) (by assumption) ?rest8d
            case hy8d => (intro w hSw; (try dsimp only at hSw); go_simp; first | (with_reducible rfl) | (rw [if_neg (by omega)]) | skip)
            simp only [Act.put, List.setIfInBounds_toArray, List.set_cons_zero, List.set_cons_succ]
            refine wpAnyH_take (i := 9) (oi := { dst := some 44, op := Go.Op.move (Go.Operand.tmp 9), type := 3, pos := "cursor.go:173", after := #[{ on := 4, ground := Go.Ground.guard }], guard := some (4, true) }) (v := ?_) rfl (by kernel_rfl) (by kernel_rfl) (by kernel_rfl) (fun _ _ _ h => h) (Or.inl ⟨by rfl, ?hy9d⟩) (by assumption) ?rest9d
            case hy9d => (intro w hSw; (try dsimp only at hSw); go_simp; first | (with_reducible rfl) | (rw [if_neg (by omega)]) | skip)
            simp only [Act.put, List.setIfInBounds_toArray, List.set_cons_zero, List.set_cons_succ]
            refine wpAnyH_take (i := 10) (oi := { dst := some 45, op := Go.Op.binOp Go.BinOp.sub 3 (Go.Operand.tmp 43) (Go.Operand.tmp 44) 3, type := 3, pos := "cursor.go:173", after := #[{ on := 8, ground := Go.Ground.data }, { on := 9, ground := Go.Ground.data }, { on := 4, ground := Go.Ground.guard }], guard := some (4, true) }) (v := ?_) rfl (by kernel_rfl) (by kernel_rfl) (by kernel_rfl) (fun _ _ _ h => h) (Or.inl ⟨by rfl, ?hy10d⟩) (by assumption) ?rest10d
            case hy10d => (intro w hSw; (try dsimp only at hSw); go_simp; first | (with_reducible rfl) | (rw [if_neg (by omega)]) | skip)
            simp only [Act.put, List.setIfInBounds_toArray, List.set_cons_zero, List.set_cons_succ]
            refine wpAnyH_take (i := 13) (oi := { dst := some 48, op := Go.Op.move (Go.Operand.tmp 0), type := 81, pos := "cursor.go:173", after := #[], guard := none }) (v := ?_) rfl (by kernel_rfl) (by kernel_rfl) (by kernel_rfl) (fun _ _ _ h => h) (Or.inl ⟨by rfl, ?hy13d⟩) (by assumption) ?rest13d
            case hy13d => (intro w hSw; (try dsimp only at hSw); go_simp; first | (with_reducible rfl) | (rw [if_neg (by omega)]) | skip)
            simp only [Act.put, List.setIfInBounds_toArray, List.set_cons_zero, List.set_cons_succ]
            refine wpAnyH_take (i := 14) (oi := { dst := some 49, op := Go.Op.nilCheck (Go.Operand.tmp 48), type := 0, pos := "cursor.go:173", after := #[{ on := 13, ground := Go.Ground.data }], guard := none }) (v := ?_) rfl (by kernel_rfl) (by kernel_rfl) (by kernel_rfl) (fun _ _ _ h => h) (Or.inl ⟨by rfl, ?hy14d⟩) (by assumption) ?rest14d
            case hy14d => (intro w hSw; (try dsimp only at hSw); go_simp; first | (with_reducible rfl) | (rw [if_neg (by omega)]) | skip)
            simp only [Act.put, List.setIfInBounds_toArray, List.set_cons_zero, List.set_cons_succ]
            refine wpAnyH_take (i := 15) (oi := { dst := some 50, op := Go.Op.fieldAddr 136 (Go.Operand.tmp 49) 1, type := 0, pos := "cursor.go:173", after := #[{ on := 14, ground := Go.Ground.data }], guard := none }) (v := ?_) rfl (by kernel_rfl) (by kernel_rfl) (by kernel_rfl) (fun _ _ _ h => h) (Or.inl ⟨by rfl, ?hy15d⟩) (by assumption) ?rest15d
            case hy15d => (intro w hSw; (try dsimp only at hSw); go_simp; first | (with_reducible rfl) | (rw [if_neg (by omega)]) | skip)
            simp only [Act.put, List.setIfInBounds_toArray, List.set_cons_zero, List.set_cons_succ]
            refine wpAnyH_take (i := 16) (oi := { dst := some 51, op := Go.Op.load 3 (Go.Operand.tmp 50), type := 3, pos := "cursor.go:173", after := #[{ on := 15, ground := Go.Ground.data }], guard := none }) (v := ?_) rfl (by kernel_rfl) (by kernel_rfl) (by kernel_rfl) (fun _ _ _ h => h) (Or.inl ⟨by rfl, ?hy16d⟩) (by assumption) ?rest16d
            case hy16d => (intro w hSw; (try dsimp only at hSw); go_simp; first | (with_reducible rfl) | (rw [if_neg (by omega)]) | skip)
            simp only [Act.put, List.setIfInBounds_toArray, List.set_cons_zero, List.set_cons_succ]
            refine wpAnyH_take (i := 17) (oi := { dst := some 52, op := Go.Op.binOp Go.BinOp.sub 3 (Go.Operand.tmp 51) (Go.Operand.const (Go.Value.int Go.IntKind.i64 1)) 3, type := 3, pos := "cursor.go:173", after := #[{ on := 16, ground := Go.Ground.data }], guard := none }) (v := ?_) rfl (by kernel_rfl) (by kernel_rfl) (by kernel_rfl) (fun _ _ _ h => h) (Or.inl ⟨by rfl, ?hy17d⟩) (by assumption) ?rest17d
            case hy17d => (intro w hSw; (try dsimp only at hSw); go_simp; first | (with_reducible rfl) | (rw [if_neg (by omega)]) | skip)
            simp only [Act.put, List.setIfInBounds_toArray, List.set_cons_zero, List.set_cons_succ]
            refine wpAnyH_ready (rs := [11]) (by kernel_rfl) (by simp) ?_
            refine AllReadyH.cons (o := { dst := some 46, op := Go.Op.call { callee := Go.Callee.value (Go.Operand.func 150), args := #[Go.Operand.tmp 40, Go.Operand.tmp 41, Go.Operand.tmp 45], argTypes := #[81, 85, 3] }, type := 4, pos := "cursor.go:173", after := #[{ on := 5, ground := Go.Ground.data }, { on := 6, ground := Go.Ground.data }, { on := 10, ground := Go.Ground.data }, { on := 4, ground := Go.Ground.chain }, { on := 4, ground := Go.Ground.guard }], guard := some (4, true) }) rfl (fun K hK => ?_) AllReadyH.nil
            go_simp
            (try rw [HWJ.out]); go_at_call 150; (with_reducible refine (reach_walk g A c l (q + 1) lim _ a b j (HC1.out.below hHeld.2.2.2.1) (by omega)).mono ?_); rintro e w4 ⟨he, hb4⟩; rw [HOO.out] at he; subst he
            refine hK.out _ _ ?_ (fun hHeld => ?_)
            · (try dsimp only); first | exact hHeld | exact keep5 hHeld (by assumption) | exact keep5 hHeld (below_drewN _ _) | exact keep5 S0 (below_drewN w1 _) | exact keep5 S0 (Below.drew (Below.refl _ _))
            clear hK K
            try simp only [Act.put, List.setIfInBounds_toArray, List.set_cons_zero, List.set_cons_succ]
            refine wpAnyH_take (i := 12) (oi := { dst := some 47, op := Go.Op.pick (Go.Operand.tmp 39) (Go.Operand.tmp 46) (Go.Operand.const (Go.Value.bool false)), type := 4, pos := "cursor.go:173", after := #[{ on := 4, ground := Go.Ground.data }, { on := 11, ground := Go.Ground.data }], guard := none }) (v := ?_) rfl (by kernel_rfl) (by kernel_rfl) (by kernel_rfl) (fun _ _ _ h => h) (Or.inl ⟨by rfl, ?hy12d⟩) (by assumption) ?rest12d
            case hy12d => (intro w hSw; (try dsimp only at hSw); go_simp; first | (with_reducible rfl) | (rw [if_neg (by omega)]) | skip)
            simp only [Act.put, List.setIfInBounds_toArray, List.set_cons_zero, List.set_cons_succ]
            refine wpAnyH_ready (rs := [18]) (by kernel_rfl) (by simp) ?_
            refine AllReadyH.cons (o := { dst := some 53, op := Go.Op.call { callee := Go.Callee.value (Go.Operand.func 92), args := #[Go.Operand.tmp 47, Go.Operand.tmp 52], argTypes := #[4, 3] }, type := 0, pos := "cursor.go:173", after := #[{ on := 12, ground := Go.Ground.data }, { on := 17, ground := Go.Ground.data }, { on := 11, ground := Go.Ground.chain }], guard := none }) rfl (fun K hK => ?_) AllReadyH.nil
            go_simp
            (try rw [hwq]); go_at_call 92; (with_reducible refine (need_yes q _).mono ?_); rintro e w3 ⟨rfl, rfl⟩
            refine hK.out _ _ ?_ (fun hHeld => ?_)
            · (try dsimp only); first | exact hHeld | exact keep5 hHeld (by assumption) | exact keep5 hHeld (below_drewN _ _) | exact keep5 S0 (below_drewN w1 _) | exact keep5 S0 (Below.drew (Below.refl _ _))
            clear hK K
            try simp only [Act.put, List.setIfInBounds_toArray, List.set_cons_zero, List.set_cons_succ]
            refine wpAnyH_done (by kernel_rfl) ?_ _
            refine NoPanic.normal ?_
            go_wp2_with fail
            go_roundw
            case rel => exact ⟨i + 1, _, q + 1, by go_num, rfl, by omega, hid HF2.out, Nat.lt_of_lt_of_le hsz1 hHeld.2.2.2.2, hHeld.2.1, hHeld.2.2.1, hid (HC1.out.below hHeld.2.2.2.1), hid (HR.out.trans (HG.trans (grown_of_below hHeld.2.2.2.1 _)))⟩
            case measure => simp [intOf]; omega
      · go_upto_region 11 with (first | (go_at_call 141; refine HN2.out.mono ?_; rintro e w1 ⟨rfl, HC1, HG⟩; have HC1 := hid HC1))
        have p0 := HCr.out.p0
        have p1 := HC1.out.p1
        have hwq : IntKind.i64.wrap q = q := by rw [IntKind.wrap_i64]; omega
        have hwm : IntKind.i64.wrap (m : Int) = (m : Int) := by rw [IntKind.wrap_i64]; omega
        have hwm1 : IntKind.i64.wrap ((m : Int) + 1 - 1) = (m : Int) := by rw [IntKind.wrap_i64]; omega
        have HWJ := hid (show IntKind.i64.wrap ((m : Int) - i) = (j : Int) by rw [IntKind.wrap_i64]; omega)
        have HR1 := hid (rest_b HC1.out)
        have hbg : w.heap.size ≠ g := by omega
        have b0 := HG.cell hbg b0
        have b1 := HG.cell hbg b1
        have hsz1 := Nat.lt_of_lt_of_le hsz HG.size
        obtain ⟨c0, c1, c2, f1, f2⟩ := HC1.out.cu
        have S0 : w1.cell? ⟨g, 1, none⟩ = some (.int .i64 (q + 1)) ∧ w1.cell? ⟨w.heap.size, 0, none⟩ = some (.int .i64 a) ∧ w1.cell? ⟨w.heap.size, 1, none⟩ = some (.int .i64 b) ∧ Below w1.heap.size w1 w1 ∧ w1.heap.size ≤ w1.heap.size := ⟨c1, b0, b1, Below.refl _ _, Nat.le_refl _⟩
        clear c0 c1 c2
        have HRR := hid (show 0 ≤ rest (q + 1) lim ∧ rest (q + 1) lim ≤ 1099511627776 by have := HC1.out.l2; unfold rest at hr0 ⊢; split <;> (split at hr0) <;> omega)
        have h128' : ¬ 128 ≤ x := by omega
        by_cases hj : j = 0
        · have hi4 : ¬ (i : Int) < (m : Int) := by omega
          have hie : (i : Int) = (m : Int) := by omega
          have HWN := hid (show IntKind.i64.wrap (n - IntKind.i64.wrap (7 * (i : Int))) = n - 7 * (m : Int) by rw [hie, IntKind.wrap_i64, IntKind.wrap_i64]; omega)
          clear hie
          rcases hs : sgB x (n - 7 * (m : Int)) with _ | _
          · have HF2 := hid (HF.out.trans (by rw [if_neg h128', if_neg (by rw [hs, hj]; simp)]))
            have HSS := hid hs
            clear HF hs
            refine wp_region_held_drew (S := (fun W => W.cell? ⟨g, 1, none⟩ = some (.int .i64 (q + 1)) ∧ W.cell? ⟨w.heap.size, 0, none⟩ = some (.int .i64 a) ∧ W.cell? ⟨w.heap.size, 1, none⟩ = some (.int .i64 b) ∧ Below w1.heap.size w1 W ∧ w1.heap.size ≤ W.heap.size)) (by kernel_rfl) ?hSe1 (fun hHeld => ?goe1)
            case hSe1 => first | exact hHeld | exact keep5 hHeld (by assumption) | exact keep5 hHeld (below_drewN _ _) | exact keep5 S0 (below_drewN w1 _) | exact keep5 S0 (Below.drew (Below.refl _ _))
            refine wpAnyH_take (i := 0) (oi := { dst := some 54, op := Go.Op.move (Go.Operand.tmp 9), type := 3, pos := "cursor.go:176", after := #[], guard := none }) (v := ?_) rfl (by kernel_rfl) (by kernel_rfl) (by kernel_rfl) (fun _ _ _ h => h) (Or.inl ⟨by rfl, ?hye2⟩) (by assumption) ?reste2
            case hye2 => (intro w hSw; (try dsimp only at hSw); go_simp; first | (with_reducible rfl) | (rw [if_neg (by omega)]) | skip)
            simp only [Act.put, List.setIfInBounds_toArray, List.set_cons_zero, List.set_cons_succ]
            refine wpAnyH_take (i := 1) (oi := { dst := some 55, op := Go.Op.move (Go.Operand.tmp 7), type := 3, pos := "cursor.go:176", after := #[], guard := none }) (v := ?_) rfl (by kernel_rfl) (by kernel_rfl) (by kernel_rfl) (fun _ _ _ h => h) (Or.inl ⟨by rfl, ?hye3⟩) (by assumption) ?reste3
            case hye3 => (intro w hSw; (try dsimp only at hSw); go_simp; first | (with_reducible rfl) | (rw [if_neg (by omega)]) | skip)
            simp only [Act.put, List.setIfInBounds_toArray, List.set_cons_zero, List.set_cons_succ]
            refine wpAnyH_take (i := 2) (oi := { dst := some 56, op := Go.Op.binOp Go.BinOp.sub 3 (Go.Operand.tmp 55) (Go.Operand.const (Go.Value.int Go.IntKind.i64 1)) 3, type := 3, pos := "cursor.go:176", after := #[{ on := 1, ground := Go.Ground.data }], guard := none }) (v := ?_) rfl (by kernel_rfl) (by kernel_rfl) (by kernel_rfl) (fun _ _ _ h => h) (Or.inl ⟨by rfl, ?hye4⟩) (by assumption) ?reste4
            case hye4 => (intro w hSw; (try dsimp only at hSw); go_simp; first | (with_reducible rfl) | (rw [if_neg (by omega)]) | skip)
            simp only [Act.put, List.setIfInBounds_toArray, List.set_cons_zero, List.set_cons_succ]
            refine wpAnyH_take (i := 3) (oi := { dst := some 57, op := Go.Op.binOp Go.BinOp.lss 3 (Go.Operand.tmp 54) (Go.Operand.tmp 56) 3, type := 4, pos := "cursor.go:176", after := #[{ on := 0, ground := Go.Ground.data }, { on := 2, ground := Go.Ground.data }], guard := none }) (v := ?_) rfl (by kernel_rfl) (by kernel_rfl) (by kernel_rfl) (fun _ _ _ h => h) (Or.inl ⟨by rfl, ?hye5⟩) (by assumption) ?reste5
            case hye5 => (intro w hSw; (try dsimp only at hSw); go_simp; first | (with_reducible rfl) | (rw [if_neg (by omega)]) | skip)
            simp only [Act.put, List.setIfInBounds_toArray, List.set_cons_zero, List.set_cons_succ]
            refine wpAnyH_take (i := 4) (oi := { dst := some 58, op := Go.Op.move (Go.Operand.tmp 57), type := 4, pos := "cursor.go:176", after := #[{ on := 3, ground := Go.Ground.data }], guard := none }) (v := ?_) rfl (by kernel_rfl) (by kernel_rfl) (by kernel_rfl) (fun _ _ _ h => h) (Or.inl ⟨by rfl, ?hye6⟩) (by assumption) ?reste6
            case hye6 => (intro w hSw; (try dsimp only at hSw); go_simp; first | (with_reducible rfl) | (rw [if_neg (by omega)]) | skip)
            simp only [Act.put, List.setIfInBounds_toArray, List.set_cons_zero, List.set_cons_succ]
            refine wpAnyH_take (i := 5) (oi := { dst := some 59, op := Go.Op.move (Go.Operand.tmp 10), type := 5, pos := "cursor.go:176", after := #[{ on := 4, ground := Go.Ground.guard }], guard := some (4, false) }) (v := ?_) rfl (by kernel_rfl) (by kernel_rfl) (by kernel_rfl) (fun _ _ _ h => h) (Or.inl ⟨by rfl, ?hye7⟩) (by assumption) ?reste7
            case hye7 => (intro w hSw; (try dsimp only at hSw); go_simp; first | (with_reducible rfl) | (rw [if_neg (by omega)]) | skip)
            simp only [Act.put, List.setIfInBounds_toArray, List.set_cons_zero, List.set_cons_succ]
            refine wpAnyH_take (i := 6) (oi := { dst := some 60, op := Go.Op.move (Go.Operand.tmp 1), type := 3, pos := "cursor.go:176", after := #[{ on := 4, ground := Go.Ground.guard }], guard := some (4, false) }) (v := ?_) rfl (by kernel_rfl) (by kernel_rfl) (by kernel_rfl) (fun _ _ _ h => h) (Or.inl ⟨by rfl, ?hye8⟩) (by assumption) ?reste8
            case hye8 => (intro w hSw; (try dsimp only at hSw); go_simp; first | (with_reducible rfl) | (rw [if_neg (by omega)]) | skip)
            simp only [Act.put, List.setIfInBounds_toArray, List.set_cons_zero, List.set_cons_succ]
            refine wpAnyH_take (i := 7) (oi := { dst := some 61, op := Go.Op.move (Go.Operand.tmp 9), type := 3, pos := "cursor.go:176", after := #[{ on := 4, ground := Go.Ground.guard }], guard := some (4, false) }) (v := ?_) rfl (by kernel_rfl) (by kernel_rfl) (by kernel_rfl) (fun _ _ _ h => h) (Or.inl ⟨by rfl, ?hye9⟩) (by assumption) ?reste9
            case hye9 => (intro w hSw; (try dsimp only at hSw); go_simp; first | (with_reducible rfl) | (rw [if_neg (by omega)]) | skip)
            simp only [Act.put, List.setIfInBounds_toArray, List.set_cons_zero, List.set_cons_succ]
            refine wpAnyH_take (i := 8) (oi := { dst := some 62, op := Go.Op.binOp Go.BinOp.mul 3 (Go.Operand.const (Go.Value.int Go.IntKind.i64 7)) (Go.Operand.tmp 61) 3, type := 3, pos := "cursor.go:176", after := #[{ on := 7, ground := Go.Ground.data }, { on := 4, ground := Go.Ground.guard }], guard := some (4, false) }) (v := ?_) rfl (by kernel_rfl) (by kernel_rfl) (by kernel_rfl) (fun _ _ _ h => h) (Or.inl ⟨by rfl, ?hye10⟩) (by assumption) ?reste10
            case hye10 => (intro w hSw; (try dsimp only at hSw); go_simp; first | (with_reducible rfl) | (rw [if_neg (by omega)]) | skip)
            simp only [Act.put, List.setIfInBounds_toArray, List.set_cons_zero, List.set_cons_succ]
            refine wpAnyH_take (i := 9) (oi := { dst := some 63, op := Go.Op.binOp Go.BinOp.sub 3 (Go.Operand.tmp 60) (Go.Operand.tmp 62) 3, type := 3, pos := "cursor.go:176", after := #[{ on := 6, ground := Go.Ground.data }, { on := 8, ground := Go.Ground.data }, { on := 4, ground := Go.Ground.guard }], guard := some (4, false) }) (v := ?_) rfl (by kernel_rfl) (by kernel_rfl) (by kernel_rfl) (fun _ _ _ h => h) (Or.inl ⟨by rfl, ?hye11⟩) (by assumption) ?reste11
            case hye11 => (intro w hSw; (try dsimp only at hSw); go_simp; first | (with_reducible rfl) | (rw [if_neg (by omega)]) | skip)
            simp only [Act.put, List.setIfInBounds_toArray, List.set_cons_zero, List.set_cons_succ]
            refine wpAnyH_take (i := 18) (oi := { dst := some 72, op := Go.Op.move (Go.Operand.tmp 0), type := 81, pos := "cursor.go:176", after := #[], guard := none }) (v := ?_) rfl (by kernel_rfl) (by kernel_rfl) (by kernel_rfl) (fun _ _ _ h => h) (Or.inl ⟨by rfl, ?hye12⟩) (by assumption) ?reste12
            case hye12 => (intro w hSw; (try dsimp only at hSw); go_simp; first | (with_reducible rfl) | (rw [if_neg (by omega)]) | skip)
            simp only [Act.put, List.setIfInBounds_toArray, List.set_cons_zero, List.set_cons_succ]
            refine wpAnyH_take (i := 19) (oi := { dst := some 73, op := Go.Op.nilCheck (Go.Operand.tmp 72), type := 0, pos := "cursor.go:176", after := #[{ on := 18, ground := Go.Ground.data }], guard := none }) (v := ?_) rfl (by kernel_rfl) (by kernel_rfl) (by kernel_rfl) (fun _ _ _ h => h) (Or.inl ⟨by rfl, ?hye13⟩) (by assumption) ?reste13
            case hye13 => (intro w hSw; (try dsimp only at hSw); go_simp; first | (with_reducible rfl) | (rw [if_neg (by omega)]) | skip)
            simp only [Act.put, List.setIfInBounds_toArray, List.set_cons_zero, List.set_cons_succ]
            refine wpAnyH_take (i := 20) (oi := { dst := some 74, op := Go.Op.fieldAddr 136 (Go.Operand.tmp 73) 1, type := 0, pos := "cursor.go:176", after := #[{ on := 19, ground := Go.Ground.data }], guard := none }) (v := ?_) rfl (by kernel_rfl) (by kernel_rfl) (by kernel_rfl) (fun _ _ _ h => h) (Or.inl ⟨by rfl, ?hye14⟩) (by assumption) ?reste14
            case hye14 => (intro w hSw; (try dsimp only at hSw); go_simp; first | (with_reducible rfl) | (rw [if_neg (by omega)]) | skip)
            simp only [Act.put, List.setIfInBounds_toArray, List.set_cons_zero, List.set_cons_succ]
            refine wpAnyH_take (i := 21) (oi := { dst := some 75, op := Go.Op.load 3 (Go.Operand.tmp 74), type := 3, pos := "cursor.go:176", after := #[{ on := 20, ground := Go.Ground.data }], guard := none }) (v := ?_) rfl (by kernel_rfl) (by kernel_rfl) (by kernel_rfl) (fun _ _ _ h => h) (Or.inl ⟨by rfl, ?hye15⟩) (by assumption) ?reste15
            case hye15 => (intro w hSw; (try dsimp only at hSw); go_simp; first | (with_reducible rfl) | (rw [if_neg (by omega)]) | skip)
            simp only [Act.put, List.setIfInBounds_toArray, List.set_cons_zero, List.set_cons_succ]
            refine wpAnyH_take (i := 22) (oi := { dst := some 76, op := Go.Op.binOp Go.BinOp.sub 3 (Go.Operand.tmp 75) (Go.Operand.const (Go.Value.int Go.IntKind.i64 1)) 3, type := 3, pos := "cursor.go:176", after := #[{ on := 21, ground := Go.Ground.data }], guard := none }) (v := ?_) rfl (by kernel_rfl) (by kernel_rfl) (by kernel_rfl) (fun _ _ _ h => h) (Or.inl ⟨by rfl, ?hye16⟩) (by assumption) ?reste16
            case hye16 => (intro w hSw; (try dsimp only at hSw); go_simp; first | (with_reducible rfl) | (rw [if_neg (by omega)]) | skip)
            simp only [Act.put, List.setIfInBounds_toArray, List.set_cons_zero, List.set_cons_succ]
            refine wpAnyH_ready (rs := [10]) (by kernel_rfl) (by simp) ?_
            refine AllReadyH.cons (o := { dst := some 64, op := Go.Op.call { callee := Go.Callee.value (Go.Operand.func 151), args := #[Go.Operand.tmp 59, Go.Operand.tmp 63], argTypes := #[5, 3] }, type := 4, pos := "cursor.go:176", after := #[{ on := 5, ground := Go.Ground.data }, { on := 9, ground := Go.Ground.data }, { on := 4, ground := Go.Ground.chain }, { on := 4, ground := Go.Ground.guard }], guard := some (4, false) }) rfl (fun K hK => ?_) AllReadyH.nil
            go_simp
            (try rw [HWN.out]); go_at_call 151; (with_reducible refine (signed_any x (n - 7 * (m : Int)) _ x0 (by omega) (by omega) (by omega)).mono ?_); rintro e w6 ⟨he, hb6⟩; rw [HSS.out] at he; subst he
            refine hK.out _ _ ?_ (fun hHeld => ?_)
            · (try dsimp only); first | exact hHeld | exact keep5 hHeld (by assumption) | exact keep5 hHeld (below_drewN _ _) | exact keep5 S0 (below_drewN w1 _) | exact keep5 S0 (Below.drew (Below.refl _ _))
            clear hK K
            try simp only [Act.put, List.setIfInBounds_toArray, List.set_cons_zero, List.set_cons_succ]
            refine wpAnyH_take (i := 11) (oi := { dst := some 65, op := Go.Op.pick (Go.Operand.tmp 58) (Go.Operand.const (Go.Value.bool true)) (Go.Operand.tmp 64), type := 4, pos := "cursor.go:176", after := #[{ on := 4, ground := Go.Ground.data }, { on := 10, ground := Go.Ground.data }], guard := none }) (v := ?_) rfl (by kernel_rfl) (by kernel_rfl) (by kernel_rfl) (fun _ _ _ h => h) (Or.inl ⟨by rfl, ?hye17⟩) (by assumption) ?reste17
            case hye17 => (intro w hSw; (try dsimp only at hSw); go_simp; first | (with_reducible rfl) | (rw [if_neg (by omega)]) | skip)
            simp only [Act.put, List.setIfInBounds_toArray, List.set_cons_zero, List.set_cons_succ]
            refine wpAnyH_take (i := 12) (oi := { dst := some 66, op := Go.Op.move (Go.Operand.tmp 65), type := 4, pos := "cursor.go:176", after := #[{ on := 11, ground := Go.Ground.data }, { on := 10, ground := Go.Ground.chain }], guard := none }) (v := ?_) rfl (by kernel_rfl) (by kernel_rfl) (by kernel_rfl) (fun _ _ _ h => h) (Or.inl ⟨by rfl, ?hye18⟩) (by assumption) ?reste18
            case hye18 => (intro w hSw; (try dsimp only at hSw); go_simp; first | (with_reducible rfl) | (rw [if_neg (by omega)]) | skip)
            simp only [Act.put, List.setIfInBounds_toArray, List.set_cons_zero, List.set_cons_succ]
            refine wpAnyH_take (i := 13) (oi := { dst := some 67, op := Go.Op.load 85 (Go.Operand.tmp 5), type := 85, pos := "cursor.go:176", after := #[{ on := 12, ground := Go.Ground.guard }], guard := some (12, true) }) (v := undef) rfl (by kernel_rfl) (by kernel_rfl) (by kernel_rfl) (fun _ _ _ h => h) (Or.inr ⟨by rfl, rfl⟩) (by assumption) ?_
            simp only [Act.put, List.setIfInBounds_toArray, List.set_cons_zero, List.set_cons_succ]
            refine wpAnyH_take (i := 14) (oi := { dst := some 68, op := Go.Op.move (Go.Operand.tmp 0), type := 81, pos := "cursor.go:176", after := #[{ on := 12, ground := Go.Ground.guard }], guard := some (12, true) }) (v := undef) rfl (by kernel_rfl) (by kernel_rfl) (by kernel_rfl) (fun _ _ _ h => h) (Or.inr ⟨by rfl, rfl⟩) (by assumption) ?_
            simp only [Act.put, List.setIfInBounds_toArray, List.set_cons_zero, List.set_cons_succ]
            refine wpAnyH_take (i := 15) (oi := { dst := some 69, op := Go.Op.call { callee := Go.Callee.value (Go.Operand.func 68), args := #[Go.Operand.tmp 68], argTypes := #[81] }, type := 3, pos := "cursor.go:176", after := #[{ on := 14, ground := Go.Ground.data }, { on := 12, ground := Go.Ground.chain }, { on := 12, ground := Go.Ground.guard }], guard := some (12, true) }) (v := undef) rfl (by kernel_rfl) (by kernel_rfl) (by kernel_rfl) (fun _ _ _ h => h) (Or.inr ⟨by rfl, rfl⟩) (by assumption) ?_
            simp only [Act.put, List.setIfInBounds_toArray, List.set_cons_zero, List.set_cons_succ]
            refine wpAnyH_take (i := 16) (oi := { dst := some 70, op := Go.Op.call { callee := Go.Callee.value (Go.Operand.func 152), args := #[Go.Operand.tmp 67, Go.Operand.tmp 69], argTypes := #[85, 3] }, type := 4, pos := "cursor.go:176", after := #[{ on := 13, ground := Go.Ground.data }, { on := 15, ground := Go.Ground.data }, { on := 15, ground := Go.Ground.chain }, { on := 12, ground := Go.Ground.guard }], guard := some (12, true) }) (v := undef) rfl (by kernel_rfl) (by kernel_rfl) (by kernel_rfl) (fun _ _ _ h => h) (Or.inr ⟨by rfl, rfl⟩) (by assumption) ?_
            simp only [Act.put, List.setIfInBounds_toArray, List.set_cons_zero, List.set_cons_succ]
            refine wpAnyH_take (i := 17) (oi := { dst := some 71, op := Go.Op.pick (Go.Operand.tmp 66) (Go.Operand.tmp 70) (Go.Operand.const (Go.Value.bool false)), type := 4, pos := "cursor.go:176", after := #[{ on := 12, ground := Go.Ground.data }, { on := 16, ground := Go.Ground.data }], guard := none }) (v := ?_) rfl (by kernel_rfl) (by kernel_rfl) (by kernel_rfl) (fun _ _ _ h => h) (Or.inl ⟨by rfl, ?hye19⟩) (by assumption) ?reste19
            case hye19 => (intro w hSw; (try dsimp only at hSw); go_simp; first | (with_reducible rfl) | (rw [if_neg (by omega)]) | skip)
            simp only [Act.put, List.setIfInBounds_toArray, List.set_cons_zero, List.set_cons_succ]
            refine wpAnyH_ready (rs := [23]) (by kernel_rfl) (by simp) ?_
            refine AllReadyH.cons (o := { dst := some 77, op := Go.Op.call { callee := Go.Callee.value (Go.Operand.func 92), args := #[Go.Operand.tmp 71, Go.Operand.tmp 76], argTypes := #[4, 3] }, type := 0, pos := "cursor.go:176", after := #[{ on := 17, ground := Go.Ground.data }, { on := 22, ground := Go.Ground.data }, { on := 16, ground := Go.Ground.chain }], guard := none }) rfl (fun K hK => ?_) AllReadyH.nil
            go_simp
            (try rw [hwq]); go_at_call 92; (with_reducible refine (need_no q _).mono ?_); rintro e w3 ⟨rfl, rfl⟩; refine ⟨rfl, ?_⟩; show PostI g A c l lim w (sM n a b m l lim (m + 1) p) _ _; rw [HF2.out]; exact ⟨rfl, HR.out.trans (HG.trans (grown_of_below hHeld.2.2.2.1 _))⟩
          · rcases ho : chB a b (rest (q + 1) lim) with _ | _
            · have HF2 := hid (HF.out.trans (by rw [if_neg h128', if_neg (by rw [ho]; simp)]))
              have HSS := hid hs
              have HOO := hid ho
              clear HF hs ho
              refine wp_region_held_drew (S := (fun W => W.cell? ⟨g, 1, none⟩ = some (.int .i64 (q + 1)) ∧ W.cell? ⟨w.heap.size, 0, none⟩ = some (.int .i64 a) ∧ W.cell? ⟨w.heap.size, 1, none⟩ = some (.int .i64 b) ∧ Below w1.heap.size w1 W ∧ w1.heap.size ≤ W.heap.size)) (by kernel_rfl) ?hSf1 (fun hHeld => ?gof1)
              case hSf1 => first | exact hHeld | exact keep5 hHeld (by assumption) | exact keep5 hHeld (below_drewN _ _) | exact keep5 S0 (below_drewN w1 _) | exact keep5 S0 (Below.drew (Below.refl _ _))
              refine wpAnyH_take (i := 0) (oi := { dst := some 54, op := Go.Op.move (Go.Operand.tmp 9), type := 3, pos := "cursor.go:176", after := #[], guard := none }) (v := ?_) rfl (by kernel_rfl) (by kernel_rfl) (by kernel_rfl) (fun _ _ _ h => h) (Or.inl ⟨by rfl, ?hyf2⟩) (by assumption) ?restf2
              case hyf2 => (intro w hSw; (try dsimp only at hSw); go_simp; first | (with_reducible rfl) | (rw [if_neg (by omega)]) | skip)
              simp only [Act.put, List.setIfInBounds_toArray, List.set_cons_zero, List.set_cons_succ]
              refine wpAnyH_take (i := 1) (oi := { dst := some 55, op := Go.Op.move (Go.Operand.tmp 7), type := 3, pos := "cursor.go:176", after := #[], guard := none }) (v := ?_) rfl (by kernel_rfl) (by kernel_rfl) (by kernel_rfl) (fun _ _ _ h => h) (Or.inl ⟨by rfl, ?hyf3⟩) (by assumption) ?restf3
              case hyf3 => (intro w hSw; (try dsimp only at hSw); go_simp; first | (with_reducible rfl) | (rw [if_neg (by omega)]) | skip)
              simp only [Act.put, List.setIfInBounds_toArray, List.set_cons_zero, List.set_cons_succ]
              refine wpAnyH_take (i := 2) (oi := { dst := some 56, op := Go.Op.binOp Go.BinOp.sub 3 (Go.Operand.tmp 55) (Go.Operand.const (Go.Value.int Go.IntKind.i64 1)) 3, type := 3, pos := "cursor.go:176", after := #[{ on := 1, ground := Go.Ground.data }], guard := none }) (v := ?_) rfl (by kernel_rfl) (by kernel_rfl) (by kernel_rfl) (fun _ _ _ h => h) (Or.inl ⟨by rfl, ?hyf4⟩) (by assumption) ?restf4
              case hyf4 => (intro w hSw; (try dsimp only at hSw); go_simp; first | (with_reducible rfl) | (rw [if_neg (by omega)]) | skip)
              simp only [Act.put, List.setIfInBounds_toArray, List.set_cons_zero, List.set_cons_succ]
              refine wpAnyH_take (i := 3) (oi := { dst := some 57, op := Go.Op.binOp Go.BinOp.lss 3 (Go.Operand.tmp 54) (Go.Operand.tmp 56) 3, type := 4, pos := "cursor.go:176", after := #[{ on := 0, ground := Go.Ground.data }, { on := 2, ground := Go.Ground.data }], guard := none }) (v := ?_) rfl (by kernel_rfl) (by kernel_rfl) (by kernel_rfl) (fun _ _ _ h => h) (Or.inl ⟨by rfl, ?hyf5⟩) (by assumption) ?restf5
              case hyf5 => (intro w hSw; (try dsimp only at hSw); go_simp; first | (with_reducible rfl) | (rw [if_neg (by omega)]) | skip)
              simp only [Act.put, List.setIfInBounds_toArray, List.set_cons_zero, List.set_cons_succ]
              refine wpAnyH_take (i := 4) (oi := { dst := some 58, op := Go.Op.move (Go.Operand.tmp 57), type := 4, pos := "cursor.go:176", after := #[{ on := 3, ground := Go.Ground.data }], guard := none }) (v := ?_) rfl (by kernel_rfl) (by kernel_rfl) (by kernel_rfl) (fun _ _ _ h => h) (Or.inl ⟨by rfl, ?hyf6⟩) (by assumption) ?restf6
              case hyf6 => (intro w hSw; (try dsimp only at hSw); go_simp; first | (with_reducible rfl) | (rw [if_neg (by omega)]) | skip)
              simp only [Act.put, List.setIfInBounds_toArray, List.set_cons_zero, List.set_cons_succ]
              refine wpAnyH_take (i := 5) (oi := { dst := some 59, op := Go.Op.move (Go.Operand.tmp 10), type := 5, pos := "cursor.go:176", after := #[{ on := 4, ground := Go.Ground.guard }], guard := some (4, false) }) (v := ?_) rfl (by kernel_rfl) (by kernel_rfl) (by kernel_rfl) (fun _ _ _ h => h) (Or.inl ⟨by rfl, ?hyf7⟩) (by assumption) ?restf7
              case hyf7 => (intro w hSw; (try dsimp only at hSw); go_simp; first | (with_reducible rfl) | (rw [if_neg (by omega)]) | skip)
              simp only [Act.put, List.setIfInBounds_toArray, List.set_cons_zero, List.set_cons_succ]
              refine wpAnyH_take (i := 6) (oi := { dst := some 60, op := Go.Op.move (Go.Operand.tmp 1), type := 3, pos := "cursor.go:176", after := #[{ on := 4, ground := Go.Ground.guard }], guard := some (4, false) }) (v := ?_) rfl (by kernel_rfl) (by kernel_rfl) (by kernel_rfl) (fun _ _ _ h => h) (Or.inl ⟨by rfl, ?hyf8⟩) (by assumption) ?restf8
              case hyf8 => (intro w hSw; (try dsimp only at hSw); go_simp; first | (with_reducible rfl) | (rw [if_neg (by omega)]) | skip)
              simp only [Act.put, List.setIfInBounds_toArray, List.set_cons_zero, List.set_cons_succ]
              refine wpAnyH_take (i := 7) (oi := { dst := some 61, op := Go.Op.move (Go.Operand.tmp 9), type := 3, pos := "cursor.go:176", after := #[{ on := 4, ground := Go.Ground.guard }], guard := some (4, false) }) (v := ?_) rfl (by kernel_rfl) (by kernel_rfl) (by kernel_rfl) (fun _ _ _ h => h) (Or.inl ⟨by rfl, ?hyf9⟩) (by assumption) ?restf9
              case hyf9 => (intro w hSw; (try dsimp only at hSw); go_simp; first | (with_reducible rfl) | (rw [if_neg (by omega)]) | skip)
              simp only [Act.put, List.setIfInBounds_toArray, List.set_cons_zero, List.set_cons_succ]
              refine wpAnyH_take (i := 8) (oi := { dst := some 62, op := Go.Op.binOp Go.BinOp.mul 3 (Go.Operand.const (Go.Value.int Go.IntKind.i64 7)) (Go.Operand.tmp 61) 3, type := 3, pos := "cursor.go:176", after := #[{ on := 7, ground := Go.Ground.data }, { on := 4, ground := Go.Ground.guard }], guard := some (4, false) }) (v := ?_) rfl (by kernel_rfl) (by kernel_rfl) (by kernel_rfl) (fun _ _ _ h => h) (Or.inl ⟨by rfl, ?hyf10⟩) (by assumption) ?restf10
              case hyf10 => (intro w hSw; (try dsimp only at hSw); go_simp; first | (with_reducible rfl) | (rw [if_neg (by omega)]) | skip)
              simp only [Act.put, List.setIfInBounds_toArray, List.set_cons_zero, List.set_cons_succ]
              refine wpAnyH_take (i := 9) (oi := { dst := some 63, op := Go.Op.binOp Go.BinOp.sub 3 (Go.Operand.tmp 60) (Go.Operand.tmp 62) 3, type := 3, pos := "cursor.go:176", after := #[{ on := 6, ground := Go.Ground.data }, { on := 8, ground := Go.Ground.data }, { on := 4, ground := Go.Ground.guard }], guard := some (4, false) }) (v := ?_) rfl (by kernel_rfl) (by kernel_rfl) (by kernel_rfl) (fun _ _ _ h => h) (Or.inl ⟨by rfl, ?hyf11⟩) (by assumption) ?restf11
              case hyf11 => (intro w hSw; (try dsimp only at hSw); go_simp; first | (with_reducible rfl) | (rw [if_neg (by omega)]) | skip)
              simp only [Act.put, List.setIfInBounds_toArray, List.set_cons_zero, List.set_cons_succ]
              refine wpAnyH_take (i := 18) (oi := { dst := some 72, op := Go.Op.move (Go.Operand.tmp 0), type := 81, pos := "cursor.go:176", after := #[], guard := none }) (v := ?_) rfl (by kernel_rfl) (by kernel_rfl) (by kernel_rfl) (fun _ _ _ h => h) (Or.inl ⟨by rfl, ?hyf12⟩) (by assumption) ?restf12
              case hyf12 => (intro w hSw; (try dsimp only at hSw); go_simp; first | (with_reducible rfl) | (rw [if_neg (by omega)]) | skip)
              simp only [Act.put, List.setIfInBounds_toArray, List.set_cons_zero, List.set_cons_succ]
              refine wpAnyH_take (i := 19) (oi := { dst := some 73, op := Go.Op.nilCheck (Go.Operand.tmp 72), type := 0, pos := "cursor.go:176", after := #[{ on := 18, ground := Go.Ground.data }], guard := none }) (v := ?_) rfl (by kernel_rfl) (by kernel_rfl) (by kernel_rfl) (fun _ _ _ h => h) (Or.inl ⟨by rfl, ?hyf13⟩) (by assumption) ?restf13
              case hyf13 => (intro w hSw; (try dsimp only at hSw); go_simp; first | (with_reducible rfl) | (rw [if_neg (by omega)]) | skip)
              simp only [Act.put, List.setIfInBounds_toArray, List.set_cons_zero, List.set_cons_succ]
              refine wpAnyH_take (i := 20) (oi := { dst := some 74, op := Go.Op.fieldAddr 136 (Go.Operand.tmp 73) 1, type := 0, pos := "cursor.go:176", after := #[{ on := 19, ground := Go.Ground.data }], guard := none }) (v := ?_) rfl (by kernel_rfl) (by kernel_rfl) (by kernel_rfl) (fun _ _ _ h => h) (Or.inl ⟨by rfl, ?hyf14⟩) (by assumption) ?restf14
              case hyf14 => (intro w hSw; (try dsimp only at hSw); go_simp; first | (with_reducible rfl) | (rw [if_neg (by omega)]) | skip)
              simp only [Act.put, List.setIfInBounds_toArray, List.set_cons_zero, List.set_cons_succ]
              refine wpAnyH_take (i := 21) (oi := { dst := some 75, op := Go.Op.load 3 (Go.Operand.tmp 74), type := 3, pos := "cursor.go:176", after := #[{ on := 20, ground := Go.Ground.data }], guard := none }) (v := ?_) rfl (by kernel_rfl) (by kernel_rfl) (by kernel_rfl) (fun _ _ _ h => h) (Or.inl ⟨by rfl, ?hyf15⟩) (by assumption) ?restf15
              case hyf15 => (intro w hSw; (try dsimp only at hSw); go_simp; first | (with_reducible rfl) | (rw [if_neg (by omega)]) | skip)
              simp only [Act.put, List.setIfInBounds_toArray, List.set_cons_zero, List.set_cons_succ]
              refine wpAnyH_take (i := 22) (oi := { dst := some 76, op := Go.Op.binOp Go.BinOp.sub 3 (Go.Operand.tmp 75) (Go.Operand.const (Go.Value.int Go.IntKind.i64 1)) 3, type := 3, pos := "cursor.go:176", after := #[{ on := 21, ground := Go.Ground.data }], guard := none }) (v := ?_) rfl (by kernel_rfl) (by kernel_rfl) (by kernel_rfl) (fun _ _ _ h => h) (Or.inl ⟨by rfl, ?hyf16⟩) (by assumption) ?restf16
              case hyf16 => (intro w hSw; (try dsimp only at hSw); go_simp; first | (with_reducible rfl) | (rw [if_neg (by omega)]) | skip)
              simp only [Act.put, List.setIfInBounds_toArray, List.set_cons_zero, List.set_cons_succ]
              refine wpAnyH_ready (rs := [10]) (by kernel_rfl) (by simp) ?_
              refine AllReadyH.cons (o := { dst := some 64, op := Go.Op.call { callee := Go.Callee.value (Go.Operand.func 151), args := #[Go.Operand.tmp 59, Go.Operand.tmp 63], argTypes := #[5, 3] }, type := 4, pos := "cursor.go:176", after := #[{ on := 5, ground := Go.Ground.data }, { on := 9, ground := Go.Ground.data }, { on := 4, ground := Go.Ground.chain }, { on := 4, ground := Go.Ground.guard }], guard := some (4, false) }) rfl (fun K hK => ?_) AllReadyH.nil
              go_simp
              (try rw [HWN.out]); go_at_call 151; (with_reducible refine (signed_any x (n - 7 * (m : Int)) _ x0 (by omega) (by omega) (by omega)).mono ?_); rintro e w6 ⟨he, hb6⟩; rw [HSS.out] at he; subst he
              refine hK.out _ _ ?_ (fun hHeld => ?_)
              · (try dsimp only); first | exact hHeld | exact keep5 hHeld (by assumption) | exact keep5 hHeld (below_drewN _ _) | exact keep5 S0 (below_drewN w1 _) | exact keep5 S0 (Below.drew (Below.refl _ _))
              clear hK K
              try simp only [Act.put, List.setIfInBounds_toArray, List.set_cons_zero, List.set_cons_succ]
              refine wpAnyH_take (i := 11) (oi := { dst := some 65, op := Go.Op.pick (Go.Operand.tmp 58) (Go.Operand.const (Go.Value.bool true)) (Go.Operand.tmp 64), type := 4, pos := "cursor.go:176", after := #[{ on := 4, ground := Go.Ground.data }, { on := 10, ground := Go.Ground.data }], guard := none }) (v := ?_) rfl (by kernel_rfl) (by kernel_rfl) (by kernel_rfl) (fun _ _ _ h => h) (Or.inl ⟨by rfl, ?hyf17⟩) (by assumption) ?restf17
              case hyf17 => (intro w hSw; (try dsimp only at hSw); go_simp; first | (with_reducible rfl) | (rw [if_neg (by omega)]) | skip)
              simp only [Act.put, List.setIfInBounds_toArray, List.set_cons_zero, List.set_cons_succ]
              refine wpAnyH_take (i := 12) (oi := { dst := some 66, op := Go.Op.move (Go.Operand.tmp 65), type := 4, pos := "cursor.go:176", after := #[{ on := 11, ground := Go.Ground.data }, { on := 10, ground := Go.Ground.chain }], guard := none }) (v := ?_) rfl (by kernel_rfl) (by kernel_rfl) (by kernel_rfl) (fun _ _ _ h => h) (Or.inl ⟨by rfl, ?hyf18⟩) (by assumption) ?restf18
              case hyf18 => (intro w hSw; (try dsimp only at hSw); go_simp; first | (with_reducible rfl) | (rw [if_neg (by omega)]) | skip)
              simp only [Act.put, List.setIfInBounds_toArray, List.set_cons_zero, List.set_cons_succ]
              refine wpAnyH_take (i := 13) (oi := { dst := some 67, op := Go.Op.load 85 (Go.Operand.tmp 5), type := 85, pos := "cursor.go:176", after := #[{ on := 12, ground := Go.Ground.guard }], guard := some (12, true) }) (v := ?_) rfl (by kernel_rfl) (by kernel_rfl) (by kernel_rfl) (fun _ _ _ h => h) (Or.inl ⟨by rfl, ?hyf19⟩) (by assumption) ?restf19
              case hyf19 => (intro w hSw; (try dsimp only at hSw); go_simp; first | (with_reducible rfl) | (rw [if_neg (by omega)]) | skip)
              simp only [Act.put, List.setIfInBounds_toArray, List.set_cons_zero, List.set_cons_succ]
              refine wpAnyH_take (i := 14) (oi := { dst := some 68, op := Go.Op.move (Go.Operand.tmp 0), type := 81, pos := "cursor.go:176", after := #[{ on := 12, ground := Go.Ground.guard }], guard := some (12, true) }) (v := ?_) rfl (by kernel_rfl) (by kernel_rfl) (by kernel_rfl) (fun _ _ _ h => h) (Or.inl ⟨by rfl, ?hyf20⟩) (by assumption) ?restf20
              case hyf20 => (intro w hSw; (try dsimp only at hSw); go_simp; first | (with_reducible rfl) | (rw [if_neg (by omega)]) | skip)
              simp only [Act.put, List.setIfInBounds_toArray, List.set_cons_zero, List.set_cons_succ]
              refine wpAnyH_ready (rs := [15]) (by kernel_rfl) (by simp) ?_
              refine AllReadyH.cons (o := { dst := some 69, op := Go.Op.call { callee := Go.Callee.value (Go.Operand.func 68), args := #[Go.Operand.tmp 68], argTypes := #[81] }, type := 3, pos := "cursor.go:176", after := #[{ on := 14, ground := Go.Ground.data }, { on := 12, ground := Go.Ground.chain }, { on := 12, ground := Go.Ground.guard }], guard := some (12, true) }) rfl (fun K hK => ?_) AllReadyH.nil
              go_simp
              go_at_call 68; (with_reducible refine (HR1.out _ hHeld.2.2.2.1).mono ?_); rintro e w2 ⟨rfl, hb2⟩
              refine hK.out _ _ ?_ (fun hHeld => ?_)
              · (try dsimp only); first | exact hHeld | exact keep5 hHeld (by assumption) | exact keep5 hHeld (below_drewN _ _) | exact keep5 S0 (below_drewN w1 _) | exact keep5 S0 (Below.drew (Below.refl _ _))
              clear hK K
              try simp only [Act.put, List.setIfInBounds_toArray, List.set_cons_zero, List.set_cons_succ]
              refine wpAnyH_ready (rs := [16]) (by kernel_rfl) (by simp) ?_
              refine AllReadyH.cons (o := { dst := some 70, op := Go.Op.call { callee := Go.Callee.value (Go.Operand.func 152), args := #[Go.Operand.tmp 67, Go.Operand.tmp 69], argTypes := #[85, 3] }, type := 4, pos := "cursor.go:176", after := #[{ on := 13, ground := Go.Ground.data }, { on := 15, ground := Go.Ground.data }, { on := 15, ground := Go.Ground.chain }, { on := 12, ground := Go.Ground.guard }], guard := some (12, true) }) rfl (fun K hK => ?_) AllReadyH.nil
              go_simp
              go_at_call 152; (with_reducible refine (chas_any a b (rest (q + 1) lim) _).mono ?_); rintro e w5 ⟨he, hb5⟩; rw [HOO.out] at he; subst he
              refine hK.out _ _ ?_ (fun hHeld => ?_)
              · (try dsimp only); first | exact hHeld | exact keep5 hHeld (by assumption) | exact keep5 hHeld (below_drewN _ _) | exact keep5 S0 (below_drewN w1 _) | exact keep5 S0 (Below.drew (Below.refl _ _))
              clear hK K
              try simp only [Act.put, List.setIfInBounds_toArray, List.set_cons_zero, List.set_cons_succ]
              refine wpAnyH_take (i := 17) (oi := { dst := some 71, op := Go.Op.pick (Go.Operand.tmp 66) (Go.Operand.tmp 70) (Go.Operand.const (Go.Value.bool false)), type := 4, pos := "cursor.go:176", after := #[{ on := 12, ground := Go.Ground.data }, { on := 16, ground := Go.Ground.data }], guard := none }) (v := ?_) rfl (by kernel_rfl) (by kernel_rfl) (by kernel_rfl) (fun _ _ _ h => h) (Or.inl ⟨by rfl, ?hyf21⟩) (by assumption) ?restf21
              case hyf21 => (intro w hSw; (try dsimp only at hSw); go_simp; first | (with_reducible rfl) | (rw [if_neg (by omega)]) | skip)
              simp only [Act.put, List.setIfInBounds_toArray, List.set_cons_zero, List.set_cons_succ]
              refine wpAnyH_ready (rs := [23]) (by kernel_rfl) (by simp) ?_
              refine AllReadyH.cons (o := { dst := some 77, op := Go.Op.call { callee := Go.Callee.value (Go.Operand.func 92), args := #[Go.Operand.tmp 71, Go.Operand.tmp 76], argTypes := #[4, 3] }, type := 0, pos := "cursor.go:176", after := #[{ on := 17, ground := Go.Ground.data }, { on := 22, ground := Go.Ground.data }, { on := 16, ground := Go.Ground.chain }], guard := none }) rfl (fun K hK => ?_) AllReadyH.nil
              go_simp
              (try rw [hwq]); go_at_call 92; (with_reducible refine (need_no q _).mono ?_); rintro e w3 ⟨rfl, rfl⟩; refine ⟨rfl, ?_⟩; show PostI g A c l lim w (sM n a b m l lim (m + 1) p) _ _; rw [HF2.out]; exact ⟨rfl, HR.out.trans (HG.trans (grown_of_below hHeld.2.2.2.1 _))⟩
            · have HF2 := hid (HF.out.trans (by rw [if_neg h128', if_pos ⟨.inr hs, ho⟩]))
              have HSS := hid hs
              have HOO := hid ho
              clear HF hs ho
              refine wp_region_noPanic ?_
              refine wp_region_held_drew (S := (fun W => W.cell? ⟨g, 1, none⟩ = some (.int .i64 (q + 1)) ∧ W.cell? ⟨w.heap.size, 0, none⟩ = some (.int .i64 a) ∧ W.cell? ⟨w.heap.size, 1, none⟩ = some (.int .i64 b) ∧ Below w1.heap.size w1 W ∧ w1.heap.size ≤ W.heap.size)) (by kernel_rfl) ?hSk (fun hHeld => ?gok)
              case hSk => first | exact hHeld | exact keep5 hHeld (by assumption) | exact keep5 hHeld (below_drewN _ _) | exact keep5 S0 (below_drewN w1 _) | exact keep5 S0 (Below.drew (Below.refl _ _))
              refine wpAnyH_take (i := 0) (oi := { dst := some 54, op := Go.Op.move (Go.Operand.tmp 9), type := 3, pos := "cursor.go:176", after := #[], guard := none }) (v := ?_) rfl (by kernel_rfl) (by kernel_rfl) (by kernel_rfl) (fun _ _ _ h => h) (Or.inl ⟨by rfl, ?hy0k⟩) (by assumption) ?rest0k
              case hy0k => (intro w hSw; (try dsimp only at hSw); go_simp; first | (with_reducible rfl) | (rw [if_neg (by omega)]) | skip)
              simp only [Act.put, List.setIfInBounds_toArray, List.set_cons_zero, List.set_cons_succ]
              refine wpAnyH_take (i := 1) (oi := { dst := some 55, op := Go.Op.move (Go.Operand.tmp 7), type := 3, pos := "cursor.go:176", after := #[], guard := none }) (v := ?_) rfl (by kernel_rfl) (by kernel_rfl) (by kernel_rfl) (fun _ _ _ h => h) (Or.inl ⟨by rfl, ?hy1k⟩) (by assumption) ?rest1k
              case hy1k => (intro w hSw; (try dsimp only at hSw); go_simp; first | (with_reducible rfl) | (rw [if_neg (by omega)]) | skip)
              simp only [Act.put, List.setIfInBounds_toArray, List.set_cons_zero, List.set_cons_succ]
              refine wpAnyH_take (i := 2) (oi := { dst := some 56, op := Go.Op.binOp Go.BinOp.sub 3 (Go.Operand.tmp 55) (Go.Operand.const (Go.Value.int Go.IntKind.i64 1)) 3, type := 3, pos := "cursor.go:176", after := #[{ on := 1, ground := Go.Ground.data }], guard := none }) (v := ?_) rfl (by kernel_rfl) (by kernel_rfl) (by kernel_rfl) (fun _ _ _ h => h) (Or.inl ⟨by rfl, ?hy2k⟩) (by assumption) ?rest2k
              case hy2k => (intro w hSw; (try dsimp only at hSw); go_simp; first | (with_reducible rfl) | (rw [if_neg (by omega)]) | skip)
              simp only [Act.put, List.setIfInBounds_toArray, List.set_cons_zero, List.set_cons_succ]
              refine wpAnyH_take (i := 3) (oi := { dst := some 57, op := Go.Op.binOp Go.BinOp.lss 3 (Go.Operand.tmp 54) (Go.Operand.tmp 56) 3, type := 4, pos := "cursor.go:176", after := #[{ on := 0, ground := Go.Ground.data }, { on := 2, ground := Go.Ground.data }], guard := none }) (v := ?_) rfl (by kernel_rfl) (by kernel_rfl) (by kernel_rfl) (fun _ _ _ h => h) (Or.inl ⟨by rfl, ?hy3k⟩) (by assumption) ?rest3k
              case hy3k => (intro w hSw; (try dsimp only at hSw); go_simp; first | (with_reducible rfl) | (rw [if_neg (by omega)]) | skip)
              simp only [Act.put, List.setIfInBounds_toArray, List.set_cons_zero, List.set_cons_succ]
              refine wpAnyH_take (i := 4) (oi := { dst := some 58, op := Go.Op.move (Go.Operand.tmp 57), type := 4, pos := "cursor.go:176", after := #[{ on := 3, ground := Go.Ground.data }], guard := none }) (v := ?_) rfl (by kernel_rfl) (by kernel_rfl) (by kernel_rfl) (fun _ _ _ h => h) (Or.inl ⟨by rfl, ?hy4k⟩) (by assumption) ?rest4k
              case hy4k => (intro w hSw; (try dsimp only at hSw); go_simp; first | (with_reducible rfl) | (rw [if_neg (by omega)]) | skip)
              simp only [Act.put, List.setIfInBounds_toArray, List.set_cons_zero, List.set_cons_succ]
              refine wpAnyH_take (i := 5) (oi := { dst := some 59, op := Go.Op.move (Go.Operand.tmp 10), type := 5, pos := "cursor.go:176", after := #[{ on := 4, ground := Go.Ground.guard }], guard := some (4, false) }) (v := ?_) rfl (by kernel_rfl) (by kernel_rfl) (by kernel_rfl) (fun _ _ _ h => h) (Or.inl ⟨by rfl, ?hy5k⟩) (by assumption) ?rest5k
              case hy5k => (intro w hSw; (try dsimp only at hSw); go_simp; first | (with_reducible rfl) | (rw [if_neg (by omega)]) | skip)
              simp only [Act.put, List.setIfInBounds_toArray, List.set_cons_zero, List.set_cons_succ]
              refine wpAnyH_take (i := 6) (oi := { dst := some 60, op := Go.Op.move (Go.Operand.tmp 1), type := 3, pos := "cursor.go:176", after := #[{ on := 4, ground := Go.Ground.guard }], guard := some (4, false) }) (v := ?_) rfl (by kernel_rfl) (by kernel_rfl) (by kernel_rfl) (fun _ _ _ h => h) (Or.inl ⟨by rfl, ?hy6k⟩) (by assumption) ?rest6k
              case hy6k => (intro w hSw; (try dsimp only at hSw); go_simp; first | (with_reducible rfl) | (rw [if_neg (by omega)]) | skip)
              simp only [Act.put, List.setIfInBounds_toArray, List.set_cons_zero, List.set_cons_succ]
              refine wpAnyH_take (i := 7) (oi := { dst := some 61, op := Go.Op.move (Go.Operand.tmp 9), type := 3, pos := "cursor.go:176", after := #[{ on := 4, ground := Go.Ground.guard }], guard := some (4, false) }) (v := ?_) rfl (by kernel_rfl) (by kernel_rfl) (by kernel_rfl) (fun _ _ _ h => h) (Or.inl ⟨by rfl, ?hy7k⟩) (by assumption) ?rest7k
              case hy7k => (intro w hSw; (try dsimp only at hSw); go_simp; first | (with_reducible rfl) | (rw [if_neg (by omega)]) | skip)
              simp only [Act.put, List.setIfInBounds_toArray, List.set_cons_zero, List.set_cons_succ]
              refine wpAnyH_take (i := 8) (oi := { dst := some 62, op := Go.Op.binOp Go.BinOp.mul 3 (Go.Operand.const (Go.Value.int Go.IntKind.i64 7)) (Go.Operand.tmp 61) 3, type := 3, pos := "cursor.go:176", after := #[{ on := 7, ground := Go.Ground.data }, { on := 4, ground := Go.Ground.guard }], guard := some (4, false) }) (v := ?_) rfl (by kernel_rfl) (by kernel_rfl) (by kernel_rfl) (fun _ _ _ h => h) (Or.inl ⟨by rfl, ?hy8k⟩) (by assumption) ?rest8k
              case hy8k => (intro w hSw; (try dsimp only at hSw); go_simp; first | (with_reducible rfl) | (rw [if_neg (by omega)]) | skip)
              simp only [Act.put, List.setIfInBounds_toArray, List.set_cons_zero, List.set_cons_succ]
              refine wpAnyH_take (i := 9) (oi := { dst := some 63, op := Go.Op.binOp Go.BinOp.sub 3 (Go.Operand.tmp 60) (Go.Operand.tmp 62) 3, type := 3, pos := "cursor.go:176", after := #[{ on := 6, ground := Go.Ground.data }, { on := 8, ground := Go.Ground.data }, { on := 4, ground := Go.Ground.guard }], guard := some (4, false) }) (v := ?_) rfl (by kernel_rfl) (by kernel_rfl) (by kernel_rfl) (fun _ _ _ h => h) (Or.inl ⟨by rfl, ?hy9k⟩) (by assumption) ?rest9k
              case hy9k => (intro w hSw; (try dsimp only at hSw); go_simp; first | (with_reducible rfl) | (rw [if_neg (by omega)]) | skip)
              simp only [Act.put, List.setIfInBounds_toArray, List.set_cons_zero, List.set_cons_succ]
              refine wpAnyH_take (i := 18) (oi := { dst := some 72, op := Go.Op.move (Go.Operand.tmp 0), type := 81, pos := "cursor.go:176", after := #[], guard := none }) (v := ?_) rfl (by kernel_rfl) (by kernel_rfl) (by kernel_rfl) (fun _ _ _ h => h) (Or.inl ⟨by rfl, ?hy18k⟩) (by assumption) ?rest18k
              case hy18k => (intro w hSw; (try dsimp only at hSw); go_simp; first | (with_reducible rfl) | (rw [if_neg (by omega)]) | skip)
              simp only [Act.put, List.setIfInBounds_toArray, List.set_cons_zero, List.set_cons_succ]
              refine wpAnyH_take (i := 19) (oi := { dst := some 73, op := Go.Op.nilCheck (Go.Operand.tmp 72), type := 0, pos := "cursor.go:176", after := #[{ on := 18, ground := Go.Ground.data }], guard := none }) (v := ?_) rfl (by kernel_rfl) (by kernel_rfl) (by kernel_rfl) (fun _ _ _ h => h) (Or.inl ⟨by rfl, ?hy19k⟩) (by assumption) ?rest19k
              case hy19k => (intro w hSw; (try dsimp only at hSw); go_simp; first | (with_reducible rfl) | (rw [if_neg (by omega)]) | skip)
              simp only [Act.put, List.setIfInBounds_toArray, List.set_cons_zero, List.set_cons_succ]
              refine wpAnyH_take (i := 20) (oi := { dst := some 74, op := Go.Op.fieldAddr 136 (Go.Operand.tmp 73) 1, type := 0, pos := "cursor.go:176", after := #[{ on := 19, ground := Go.Ground.data }], guard := none }) (v := ?_) rfl (by kernel_rfl) (by kernel_rfl) (by kernel_rfl) (fun _ _ _ h => h) (Or.inl ⟨by rfl, ?hy20k⟩) (by assumption) ?rest20k
              case hy20k => (intro w hSw; (try dsimp only at hSw); go_simp; first | (with_reducible rfl) | (rw [if_neg (by omega)]) | skip)
              simp only [Act.put, List.setIfInBounds_toArray, List.set_cons_zero, List.set_cons_succ]
              refine wpAnyH_take (i := 21) (oi := { dst := some 75, op := Go.Op.load 3 (Go.Operand.tmp 74), type := 3, pos := "cursor.go:176", after := #[{ on := 20, ground := Go.Ground.data }], guard := none }) (v := ?_) rfl (by kernel_rfl) (by kernel_rfl) (by kernel_rfl) (fun _ _ _ h => h) (Or.inl ⟨by rfl, ?hy21k⟩) (by assumption) ?rest21k
              case hy21k => (intro w hSw; (try dsimp only at hSw); go_simp; first | (with_reducible rfl) | (rw [if_neg (by omega)]) | skip)
              simp only [Act.put, List.setIfInBounds_toArray, List.set_cons_zero, List.set_cons_succ]
              refine wpAnyH_take (i := 22) (oi := { dst := some 76, op := Go.Op.binOp Go.BinOp.sub 3 (Go.Operand.tmp 75) (Go.Operand.const (Go.Value.int Go.IntKind.i64 1)) 3, type := 3, pos := "cursor.go:176", after := #[{ on := 21, ground := Go.Ground.data }], guard := none }) (v := ?_) rfl (by kernel_rfl) (by kernel_rfl) (by kernel_rfl) (fun _ _ _ h => h) (Or.inl ⟨by rfl, ?hy22k⟩) (by assumption) ?rest22k
              case hy22k => (intro w hSw; (try dsimp only at hSw); go_simp; first | (with_reducible rfl) | (rw [if_neg (by omega)]) | skip)
              simp only [Act.put, List.setIfInBounds_toArray, List.set_cons_zero, List.set_cons_succ]
              refine wpAnyH_ready (rs := [10]) (by kernel_rfl) (by simp) ?_
              refine AllReadyH.cons (o := { dst := some 64, op := Go.Op.call { callee := Go.Callee.value (Go.Operand.func 151), args := #[Go.Operand.tmp 59, Go.Operand.tmp 63], argTypes := #[5, 3] }, type := 4, pos := "cursor.go:176", after := #[{ on := 5, ground := Go.Ground.data }, { on := 9, ground := Go.Ground.data }, { on := 4, ground := Go.Ground.chain }, { on := 4, ground := Go.Ground.guard }], guard := some (4, false) }) rfl (fun K hK => ?_) AllReadyH.nil
              go_simp
              (try rw [HWN.out]); go_at_call 151; (with_reducible refine (signed_any x (n - 7 * (m : Int)) _ x0 (by omega) (by omega) (by omega)).mono ?_); rintro e w6 ⟨he, hb6⟩; rw [HSS.out] at he; subst he
              refine hK.out _ _ ?_ (fun hHeld => ?_)
              · (try dsimp only); first | exact hHeld | exact keep5 hHeld (by assumption) | exact keep5 hHeld (below_drewN _ _) | exact keep5 S0 (below_drewN w1 _) | exact keep5 S0 (Below.drew (Below.refl _ _))
              clear hK K
              try simp only [Act.put, List.setIfInBounds_toArray, List.set_cons_zero, List.set_cons_succ]
              refine wpAnyH_take (i := 11) (oi := { dst := some 65, op := Go.Op.pick (Go.Operand.tmp 58) (Go.Operand.const (Go.Value.bool true)) (Go.Operand.tmp 64), type := 4, pos := "cursor.go:176", after := #[{ on := 4, ground := Go.Ground.data }, { on := 10, ground := Go.Ground.data }], guard := none }) (v := ?_) rfl (by kernel_rfl) (by kernel_rfl) (by kernel_rfl) (fun _ _ _ h => h) (Or.inl ⟨by rfl, ?hy11k⟩) (by assumption) ?rest11k
              case hy11k => (intro w hSw; (try dsimp only at hSw); go_simp; first | (with_reducible rfl) | (rw [if_neg (by omega)]) | skip)
              simp only [Act.put, List.setIfInBounds_toArray, List.set_cons_zero, List.set_cons_succ]
              refine wpAnyH_take (i := 12) (oi := { dst := some 66, op := Go.Op.move (Go.Operand.tmp 65), type := 4, pos := "cursor.go:176", after := #[{ on := 11, ground := Go.Ground.data }, { on := 10, ground := Go.Ground.chain }], guard := none }) (v := ?_) rfl (by kernel_rfl) (by kernel_rfl) (by kernel_rfl) (fun _ _ _ h => h) (Or.inl ⟨by rfl, ?hy12k⟩) (by assumption) ?rest12k
              case hy12k => (intro w hSw; (try dsimp only at hSw); go_simp; first | (with_reducible rfl) | (rw [if_neg (by omega)]) | skip)
              simp only [Act.put, List.setIfInBounds_toArray, List.set_cons_zero, List.set_cons_succ]
              refine wpAnyH_take (i := 13) (oi := { dst := some 67, op := Go.Op.load 85 (Go.Operand.tmp 5), type := 85, pos := "cursor.go:176", after := #[{ on := 12, ground := Go.Ground.guard }], guard := some (12, true) }) (v := ?_) rfl (by kernel_rfl) (by kernel_rfl) (by kernel_rfl) (fun _ _ _ h => h) (Or.inl ⟨by rfl, ?hy13k⟩) (by assumption) ?rest13k
              case hy13k => (intro w hSw; (try dsimp only at hSw); go_simp; first | (with_reducible rfl) | (rw [if_neg (by omega)]) | skip)
              simp only [Act.put, List.setIfInBounds_toArray, List.set_cons_zero, List.set_cons_succ]
              refine wpAnyH_take (i := 14) (oi := { dst := some 68, op := Go.Op.move (Go.Operand.tmp 0), type := 81, pos := "cursor.go:176", after := #[{ on := 12, ground := Go.Ground.guard }], guard := some (12, true) }) (v := ?_) rfl (by kernel_rfl) (by kernel_rfl) (by kernel_rfl) (fun _ _ _ h => h) (Or.inl ⟨by rfl, ?hy14k⟩) (by assumption) ?rest14k
              case hy14k => (intro w hSw; (try dsimp only at hSw); go_simp; first | (with_reducible rfl) | (rw [if_neg (by omega)]) | skip)
              simp only [Act.put, List.setIfInBounds_toArray, List.set_cons_zero, List.set_cons_succ]
              refine wpAnyH_ready (rs := [15]) (by kernel_rfl) (by simp) ?_
              refine AllReadyH.cons (o := { dst := some 69, op := Go.Op.call { callee := Go.Callee.value (Go.Operand.func 68), args := #[Go.Operand.tmp 68], argTypes := #[81] }, type := 3, pos := "cursor.go:176", after := #[{ on := 14, ground := Go.Ground.data }, { on := 12, ground := Go.Ground.chain }, { on := 12, ground := Go.Ground.guard }], guard := some (12, true) }) rfl (fun K hK => ?_) AllReadyH.nil
              go_simp
              go_at_call 68; (with_reducible refine (HR1.out _ hHeld.2.2.2.1).mono ?_); rintro e w2 ⟨rfl, hb2⟩
              refine hK.out _ _ ?_ (fun hHeld => ?_)
              · (try dsimp only); first | exact hHeld | exact keep5 hHeld (by assumption) | exact keep5 hHeld (below_drewN _ _) | exact keep5 S0 (below_drewN w1 _) | exact keep5 S0 (Below.drew (Below.refl _ _))
              clear hK K
              try simp only [Act.put, List.setIfInBounds_toArray, List.set_cons_zero, List.set_cons_succ]
              refine wpAnyH_ready (rs := [16]) (by kernel_rfl) (by simp) ?_
              refine AllReadyH.cons (o := { dst := some 70, op := Go.Op.call { callee := Go.Callee.value (Go.Operand.func 152), args := #[Go.Operand.tmp 67, Go.Operand.tmp 69], argTypes := #[85, 3] }, type := 4, pos := "cursor.go:176", after := #[{ on := 13, ground := Go.Ground.data }, { on := 15, ground := Go.Ground.data }, { on := 15, ground := Go.Ground.chain }, { on := 12, ground := Go.Ground.guard }], guard := some (12, true) }) rfl (fun K hK => ?_) AllReadyH.nil
              go_simp
              go_at_call 152; (with_reducible refine (chas_any a b (rest (q + 1) lim) _).mono ?_); rintro e w5 ⟨he, hb5⟩; rw [HOO.out] at he; subst he
              refine hK.out _ _ ?_ (fun hHeld => ?_)
              · (try dsimp only); first | exact hHeld | exact keep5 hHeld (by assumption) | exact keep5 hHeld (below_drewN _ _) | exact keep5 S0 (below_drewN w1 _) | exact keep5 S0 (Below.drew (Below.refl _ _))
              clear hK K
              try simp only [Act.put, List.setIfInBounds_toArray, List.set_cons_zero, List.set_cons_succ]
              refine wpAnyH_take (i := 17) (oi := { dst := some 71, op := Go.Op.pick (Go.Operand.tmp 66) (Go.Operand.tmp 70) (Go.Operand.const (Go.Value.bool false)), type := 4, pos := "cursor.go:176", after := #[{ on := 12, ground := Go.Ground.data }, { on := 16, ground := Go.Ground.data }], guard := none }) (v := ?_) rfl (by kernel_rfl) (by kernel_rfl) (by kernel_rfl) (fun _ _ _ h => h) (Or.inl ⟨by rfl, ?hy17k⟩) (by assumption) ?rest17k
              case hy17k => (intro w hSw; (try dsimp only at hSw); go_simp; first | (with_reducible rfl) | (rw [if_neg (by omega)]) | skip)
              simp only [Act.put, List.setIfInBounds_toArray, List.set_cons_zero, List.set_cons_succ]
              refine wpAnyH_ready (rs := [23]) (by kernel_rfl) (by simp) ?_
              refine AllReadyH.cons (o := { dst := some 77, op := Go.Op.call { callee := Go.Callee.value (Go.Operand.func 92), args := #[Go.Operand.tmp 71, Go.Operand.tmp 76], argTypes := #[4, 3] }, type := 0, pos := "cursor.go:176", after := #[{ on := 17, ground := Go.Ground.data }, { on := 22, ground := Go.Ground.data }, { on := 16, ground := Go.Ground.chain }], guard := none }) rfl (fun K hK => ?_) AllReadyH.nil
              go_simp
              (try rw [hwq]); go_at_call 92; (with_reducible refine (need_yes q _).mono ?_); rintro e w3 ⟨rfl, rfl⟩
              refine hK.out _ _ ?_ (fun hHeld => ?_)
              · (try dsimp only); first | exact hHeld | exact keep5 hHeld (by assumption) | exact keep5 hHeld (below_drewN _ _) | exact keep5 S0 (below_drewN w1 _) | exact keep5 S0 (Below.drew (Below.refl _ _))
              clear hK K
              try simp only [Act.put, List.setIfInBounds_toArray, List.set_cons_zero, List.set_cons_succ]
              refine wpAnyH_done (by kernel_rfl) ?_ _
              refine NoPanic.normal ?_
              go_wp2_with fail
              all_goals
                go_ret
                show PostI g A c l lim w (sM n a b m l lim (m + 1) p) _ _
                rw [HF2.out]
                exact ⟨⟨_, rfl⟩, HC1.out.below hHeld.2.2.2.1, HR.out.trans (HG.trans (grown_of_below hHeld.2.2.2.1 _))⟩
        · have hi4 : (i : Int) < (m : Int) := by omega
          rcases ho : chB a b (rest (q + 1) lim) with _ | _
          · have HF2 := hid (HF.out.trans (by rw [if_neg h128', if_neg (by rw [ho]; simp)]))
            have HOO := hid ho
            clear HF ho
            refine wp_region_held_drew (S := (fun W => W.cell? ⟨g, 1, none⟩ = some (.int .i64 (q + 1)) ∧ W.cell? ⟨w.heap.size, 0, none⟩ = some (.int .i64 a) ∧ W.cell? ⟨w.heap.size, 1, none⟩ = some (.int .i64 b) ∧ Below w1.heap.size w1 W ∧ w1.heap.size ≤ W.heap.size)) (by kernel_rfl) ?hSm1 (fun hHeld => ?gom1)
            case hSm1 => first | exact hHeld | exact keep5 hHeld (by assumption) | exact keep5 hHeld (below_drewN _ _) | exact keep5 S0 (below_drewN w1 _) | exact keep5 S0 (Below.drew (Below.refl _ _))
            refine wpAnyH_take (i := 0) (oi := { dst := some 54, op := Go.Op.move (Go.Operand.tmp 9), type := 3, pos := "cursor.go:176", after := #[], guard := none }) (v := ?_) rfl (by kernel_rfl) (by kernel_rfl) (by kernel_rfl) (fun _ _ _ h => h) (Or.inl ⟨by rfl, ?hym2⟩) (by assumption) ?restm2
            case hym2 => (intro w hSw; (try dsimp only at hSw); go_simp; first | (with_reducible rfl) | (rw [if_neg (by omega)]) | skip)
            simp only [Act.put, List.setIfInBounds_toArray, List.set_cons_zero, List.set_cons_succ]
            refine wpAnyH_take (i := 1) (oi := { dst := some 55, op := Go.Op.move (Go.Operand.tmp 7), type := 3, pos := "cursor.go:176", after := #[], guard := none }) (v := ?_) rfl (by kernel_rfl) (by kernel_rfl) (by kernel_rfl) (fun _ _ _ h => h) (Or.inl ⟨by rfl, ?hym3⟩) (by assumption) ?restm3
            case hym3 => (intro w hSw; (try dsimp only at hSw); go_simp; first | (with_reducible rfl) | (rw [if_neg (by omega)]) | skip)
            simp only [Act.put, List.setIfInBounds_toArray, List.set_cons_zero, List.set_cons_succ]
            refine wpAnyH_take (i := 2) (oi := { dst := some 56, op := Go.Op.binOp Go.BinOp.sub 3 (Go.Operand.tmp 55) (Go.Operand.const (Go.Value.int Go.IntKind.i64 1)) 3, type := 3, pos := "cursor.go:176", after := #[{ on := 1, ground := Go.Ground.data }], guard := none }) (v := ?_) rfl (by kernel_rfl) (by kernel_rfl) (by kernel_rfl) (fun _ _ _ h => h) (Or.inl ⟨by rfl, ?hym4⟩) (by assumption) ?restm4
            case hym4 => (intro w hSw; (try dsimp only at hSw); go_simp; first | (with_reducible rfl) | (rw [if_neg (by omega)]) | skip)
            simp only [Act.put, List.setIfInBounds_toArray, List.set_cons_zero, List.set_cons_succ]
            refine wpAnyH_take (i := 3) (oi := { dst := some 57, op := Go.Op.binOp Go.BinOp.lss 3 (Go.Operand.tmp 54) (Go.Operand.tmp 56) 3, type := 4, pos := "cursor.go:176", after := #[{ on := 0, ground := Go.Ground.data }, { on := 2, ground := Go.Ground.data }], guard := none }) (v := ?_) rfl (by kernel_rfl) (by kernel_rfl) (by kernel_rfl) (fun _ _ _ h => h) (Or.inl ⟨by rfl, ?hym5⟩) (by assumption) ?restm5
            case hym5 => (intro w hSw; (try dsimp only at hSw); go_simp; first | (with_reducible rfl) | (rw [if_neg (by omega)]) | skip)
            simp only [Act.put, List.setIfInBounds_toArray, List.set_cons_zero, List.set_cons_succ]
            refine wpAnyH_take (i := 4) (oi := { dst := some 58, op := Go.Op.move (Go.Operand.tmp 57), type := 4, pos := "cursor.go:176", after := #[{ on := 3, ground := Go.Ground.data }], guard := none }) (v := ?_) rfl (by kernel_rfl) (by kernel_rfl) (by kernel_rfl) (fun _ _ _ h => h) (Or.inl ⟨by rfl, ?hym6⟩) (by assumption) ?restm6
            case hym6 => (intro w hSw; (try dsimp only at hSw); go_simp; first | (with_reducible rfl) | (rw [if_neg (by omega)]) | skip)
            simp only [Act.put, List.setIfInBounds_toArray, List.set_cons_zero, List.set_cons_succ]
            refine wpAnyH_take (i := 5) (oi := { dst := some 59, op := Go.Op.move (Go.Operand.tmp 10), type := 5, pos := "cursor.go:176", after := #[{ on := 4, ground := Go.Ground.guard }], guard := some (4, false) }) (v := undef) rfl (by kernel_rfl) (by kernel_rfl) (by kernel_rfl) (fun _ _ _ h => h) (Or.inr ⟨by rfl, rfl⟩) (by assumption) ?_
            simp only [Act.put, List.setIfInBounds_toArray, List.set_cons_zero, List.set_cons_succ]
            refine wpAnyH_take (i := 6) (oi := { dst := some 60, op := Go.Op.move (Go.Operand.tmp 1), type := 3, pos := "cursor.go:176", after := #[{ on := 4, ground := Go.Ground.guard }], guard := some (4, false) }) (v := undef) rfl (by kernel_rfl) (by kernel_rfl) (by kernel_rfl) (fun _ _ _ h => h) (Or.inr ⟨by rfl, rfl⟩) (by assumption) ?_
            simp only [Act.put, List.setIfInBounds_toArray, List.set_cons_zero, List.set_cons_succ]
            refine wpAnyH_take (i := 7) (oi := { dst := some 61, op := Go.Op.move (Go.Operand.tmp 9), type := 3, pos := "cursor.go:176", after := #[{ on := 4, ground := Go.Ground.guard }], guard := some (4, false) }) (v := undef) rfl (by kernel_rfl) (by kernel_rfl) (by kernel_rfl) (fun _ _ _ h => h) (Or.inr ⟨by rfl, rfl⟩) (by assumption) ?_
            simp only [Act.put, List.setIfInBounds_toArray, List.set_cons_zero, List.set_cons_succ]
            refine wpAnyH_take (i := 8) (oi := { dst := some 62, op := Go.Op.binOp Go.BinOp.mul 3 (Go.Operand.const (Go.Value.int Go.IntKind.i64 7)) (Go.Operand.tmp 61) 3, type := 3, pos := "cursor.go:176", after := #[{ on := 7, ground := Go.Ground.data }, { on := 4, ground := Go.Ground.guard }], guard := some (4, false) }) (v := undef) rfl (by kernel_rfl) (by kernel_rfl) (by kernel_rfl) (fun _ _ _ h => h) (Or.inr ⟨by rfl, rfl⟩) (by assumption) ?_
            simp only [Act.put, List.setIfInBounds_toArray, List.set_cons_zero, List.set_cons_succ]
            refine wpAnyH_take (i := 9) (oi := { dst := some 63, op := Go.Op.binOp Go.BinOp.sub 3 (Go.Operand.tmp 60) (Go.Operand.tmp 62) 3, type := 3, pos := "cursor.go:176", after := #[{ on := 6, ground := Go.Ground.data }, { on := 8, ground := Go.Ground.data }, { on := 4, ground := Go.Ground.guard }], guard := some (4, false) }) (v := undef) rfl (by kernel_rfl) (by kernel_rfl) (by kernel_rfl) (fun _ _ _ h => h) (Or.inr ⟨by rfl, rfl⟩) (by assumption) ?_
            simp only [Act.put, List.setIfInBounds_toArray, List.set_cons_zero, List.set_cons_succ]
            refine wpAnyH_take (i := 10) (oi := { dst := some 64, op := Go.Op.call { callee := Go.Callee.value (Go.Operand.func 151), args := #[Go.Operand.tmp 59, Go.Operand.tmp 63], argTypes := #[5, 3] }, type := 4, pos := "cursor.go:176", after := #[{ on := 5, ground := Go.Ground.data }, { on := 9, ground := Go.Ground.data }, { on := 4, ground := Go.Ground.chain }, { on := 4, ground := Go.Ground.guard }], guard := some (4, false) }) (v := undef) rfl (by kernel_rfl) (by kernel_rfl) (by kernel_rfl) (fun _ _ _ h => h) (Or.inr ⟨by rfl, rfl⟩) (by assumption) ?_
            simp only [Act.put, List.setIfInBounds_toArray, List.set_cons_zero, List.set_cons_succ]
            refine wpAnyH_take (i := 11) (oi := { dst := some 65, op := Go.Op.pick (Go.Operand.tmp 58) (Go.Operand.const (Go.Value.bool true)) (Go.Operand.tmp 64), type := 4, pos := "cursor.go:176", after := #[{ on := 4, ground := Go.Ground.data }, { on := 10, ground := Go.Ground.data }], guard := none }) (v := ?_) rfl (by kernel_rfl) (by kernel_rfl) (by kernel_rfl) (fun _ _ _ h => h) (Or.inl ⟨by rfl, ?hym7⟩) (by assumption) ?restm7
            case hym7 => (intro w hSw; (try dsimp only at hSw); go_simp; first | (with_reducible rfl) | (rw [if_neg (by omega)]) | skip)
            simp only [Act.put, List.setIfInBounds_toArray, List.set_cons_zero, List.set_cons_succ]
            refine wpAnyH_take (i := 12) (oi := { dst := some 66, op := Go.Op.move (Go.Operand.tmp 65), type := 4, pos := "cursor.go:176", after := #[{ on := 11, ground := Go.Ground.data }, { on := 10, ground := Go.Ground.chain }], guard := none }) (v := ?_) rfl (by kernel_rfl) (by kernel_rfl) (by kernel_rfl) (fun _ _ _ h => h) (Or.inl ⟨by rfl, ?hym8⟩) (by assumption) ?restm8
            case hym8 => (intro w hSw; (try dsimp only at hSw); go_simp; first | (with_reducible rfl) | (rw [if_neg (by omega)]) | skip)
            simp only [Act.put, List.setIfInBounds_toArray, List.set_cons_zero, List.set_cons_succ]
            refine wpAnyH_take (i := 13) (oi := { dst := some 67, op := Go.Op.load 85 (Go.Operand.tmp 5), type := 85, pos := "cursor.go:176", after := #[{ on := 12, ground := Go.Ground.guard }], guard := some (12, true) }) (v := ?_) rfl (by kernel_rfl) (by kernel_rfl) (by kernel_rfl) (fun _ _ _ h => h) (Or.inl ⟨by rfl, ?hym9⟩) (by assumption) ?restm9
            case hym9 => (intro w hSw; (try dsimp only at hSw); go_simp; first | (with_reducible rfl) | (rw [if_neg (by omega)]) | skip)
            simp only [Act.put, List.setIfInBounds_toArray, List.set_cons_zero, List.set_cons_succ]
            refine wpAnyH_take (i := 14) (oi := { dst := some 68, op := Go.Op.move (Go.Operand.tmp 0), type := 81, pos := "cursor.go:176", after := #[{ on := 12, ground := Go.Ground.guard }], guard := some (12, true) }) (v := ?_) rfl (by kernel_rfl) (by kernel_rfl) (by kernel_rfl) (fun _ _ _ h => h) (Or.inl ⟨by rfl, ?hym10⟩) (by assumption) ?restm10
            case hym10 => (intro w hSw; (try dsimp only at hSw); go_simp; first | (with_reducible rfl) | (rw [if_neg (by omega)]) | skip)
            simp only [Act.put, List.setIfInBounds_toArray, List.set_cons_zero, List.set_cons_succ]
            refine wpAnyH_take (i := 18) (oi := { dst := some 72, op := Go.Op.move (Go.Operand.tmp 0), type := 81, pos := "cursor.go:176", after := #[], guard := none }) (v := ?_) rfl (by kernel_rfl) (by kernel_rfl) (by kernel_rfl) (fun _ _ _ h => h) (Or.inl ⟨by rfl, ?hym11⟩) (by assumption) ?restm11
            case hym11 => (intro w hSw; (try dsimp only at hSw); go_simp; first | (with_reducible rfl) | (rw [if_neg (by omega)]) | skip)
            simp only [Act.put, List.setIfInBounds_toArray, List.set_cons_zero, List.set_cons_succ]
            refine wpAnyH_take (i := 19) (oi := { dst := some 73, op := Go.Op.nilCheck (Go.Operand.tmp 72), type := 0, pos := "cursor.go:176", after := #[{ on := 18, ground := Go.Ground.data }], guard := none }) (v := ?_) rfl (by kernel_rfl) (by kernel_rfl) (by kernel_rfl) (fun _ _ _ h => h) (Or.inl ⟨by rfl, ?hym12⟩) (by assumption) ?restm12
            case hym12 => (intro w hSw; (try dsimp only at hSw); go_simp; first | (with_reducible rfl) | (rw [if_neg (by omega)]) | skip)
            simp only [Act.put, List.setIfInBounds_toArray, List.set_cons_zero, List.set_cons_succ]
            refine wpAnyH_take (i := 20) (oi := { dst := some 74, op := Go.Op.fieldAddr 136 (Go.Operand.tmp 73) 1, type := 0, pos := "cursor.go:176", after := #[{ on := 19, ground := Go.Ground.data }], guard := none }) (v := ?_) rfl (by kernel_rfl) (by kernel_rfl) (by kernel_rfl) (fun _ _ _ h => h) (Or.inl ⟨by rfl, ?hym13⟩) (by assumption) ?restm13
            case hym13 => (intro w hSw; (try dsimp only at hSw); go_simp; first | (with_reducible rfl) | (rw [if_neg (by omega)]) | skip)
            simp only [Act.put, List.setIfInBounds_toArray, List.set_cons_zero, List.set_cons_succ]
            refine wpAnyH_take (i := 21) (oi := { dst := some 75, op := Go.Op.load 3 (Go.Operand.tmp 74), type := 3, pos := "cursor.go:176", after := #[{ on := 20, ground := Go.Ground.data }], guard := none }) (v := ?_) rfl (by kernel_rfl) (by kernel_rfl) (by kernel_rfl) (fun _ _ _ h => h) (Or.inl ⟨by rfl, ?hym14⟩) (by assumption) ?restm14
            case hym14 => (intro w hSw; (try dsimp only at hSw); go_simp; first | (with_reducible rfl) | (rw [if_neg (by omega)]) | skip)
            simp only [Act.put, List.setIfInBounds_toArray, List.set_cons_zero, List.set_cons_succ]
            refine wpAnyH_take (i := 22) (oi := { dst := some 76, op := Go.Op.binOp Go.BinOp.sub 3 (Go.Operand.tmp 75) (Go.Operand.const (Go.Value.int Go.IntKind.i64 1)) 3, type := 3, pos := "cursor.go:176", after := #[{ on := 21, ground := Go.Ground.data }], guard := none }) (v := ?_) rfl (by kernel_rfl) (by kernel_rfl) (by kernel_rfl) (fun _ _ _ h => h) (Or.inl ⟨by rfl, ?hym15⟩) (by assumption) ?restm15
            case hym15 => (intro w hSw; (try dsimp only at hSw); go_simp; first | (with_reducible rfl) | (rw [if_neg (by omega)]) | skip)
            simp only [Act.put, List.setIfInBounds_toArray, List.set_cons_zero, List.set_cons_succ]
            refine wpAnyH_ready (rs := [15]) (by kernel_rfl) (by simp) ?_
            refine AllReadyH.cons (o := { dst := some 69, op := Go.Op.call { callee := Go.Callee.value (Go.Operand.func 68), args := #[Go.Operand.tmp 68], argTypes := #[81] }, type := 3, pos := "cursor.go:176", after := #[{ on := 14, ground := Go.Ground.data }, { on := 12, ground := Go.Ground.chain }, { on := 12, ground := Go.Ground.guard }], guard := some (12, true) }) rfl (fun K hK => ?_) AllReadyH.nil
            go_simp
            go_at_call 68; (with_reducible refine (HR1.out _ hHeld.2.2.2.1).mono ?_); rintro e w2 ⟨rfl, hb2⟩
            refine hK.out _ _ ?_ (fun hHeld => ?_)
            · (try dsimp only); first | exact hHeld | exact keep5 hHeld (by assumption) | exact keep5 hHeld (below_drewN _ _) | exact keep5 S0 (below_drewN w1 _) | exact keep5 S0 (Below.drew (Below.refl _ _))
            clear hK K
            try simp only [Act.put, List.setIfInBounds_toArray, List.set_cons_zero, List.set_cons_succ]
            refine wpAnyH_ready (rs := [16]) (by kernel_rfl) (by simp) ?_
            refine AllReadyH.cons (o := { dst := some 70, op := Go.Op.call { callee := Go.Callee.value (Go.Operand.func 152), args := #[Go.Operand.tmp 67, Go.Operand.tmp 69], argTypes := #[85, 3] }, type := 4, pos := "cursor.go:176", after := #[{ on := 13, ground := Go.Ground.data }, { on := 15, ground := Go.Ground.data }, { on := 15, ground := Go.Ground.chain }, { on := 12, ground := Go.Ground.guard }], guard := some (12, true) }) rfl (fun K hK => ?_) AllReadyH.nil
            go_simp
            go_at_call 152; (with_reducible refine (chas_any a b (rest (q + 1) lim) _).mono ?_); rintro e w5 ⟨he, hb5⟩; rw [HOO.out] at he; subst he
            refine hK.out _ _ ?_ (fun hHeld => ?_)
            · (try dsimp only); first | exact hHeld | exact keep5 hHeld (by assumption) | exact keep5 hHeld (below_drewN _ _) | exact keep5 S0 (below_drewN w1 _) | exact keep5 S0 (Below.drew (Below.refl _ _))
            clear hK K
            try simp only [Act.put, List.setIfInBounds_toArray, List.set_cons_zero, List.set_cons_succ]
            refine wpAnyH_take (i := 17) (oi := { dst := some 71, op := Go.Op.pick (Go.Operand.tmp 66) (Go.Operand.tmp 70) (Go.Operand.const (Go.Value.bool false)), type := 4, pos := "cursor.go:176", after := #[{ on := 12, ground := Go.Ground.data }, { on := 16, ground := Go.Ground.data }], guard := none }) (v := ?_) rfl (by kernel_rfl) (by kernel_rfl) (by kernel_rfl) (fun _ _ _ h => h) (Or.inl ⟨by rfl, ?hym16⟩) (by assumption) ?restm16
            case hym16 => (intro w hSw; (try dsimp only at hSw); go_simp; first | (with_reducible rfl) | (rw [if_neg (by omega)]) | skip)
            simp only [Act.put, List.setIfInBounds_toArray, List.set_cons_zero, List.set_cons_succ]
            refine wpAnyH_ready (rs := [23]) (by kernel_rfl) (by simp) ?_
            refine AllReadyH.cons (o := { dst := some 77, op := Go.Op.call { callee := Go.Callee.value (Go.Operand.func 92), args := #[Go.Operand.tmp 71, Go.Operand.tmp 76], argTypes := #[4, 3] }, type := 0, pos := "cursor.go:176", after := #[{ on := 17, ground := Go.Ground.data }, { on := 22, ground := Go.Ground.data }, { on := 16, ground := Go.Ground.chain }], guard := none }) rfl (fun K hK => ?_) AllReadyH.nil
            go_simp
            (try rw [hwq]); go_at_call 92; (with_reducible refine (need_no q _).mono ?_); rintro e w3 ⟨rfl, rfl⟩; refine ⟨rfl, ?_⟩; show PostI g A c l lim w (sM n a b m l lim (m + 1) p) _ _; rw [HF2.out]; exact ⟨rfl, HR.out.trans (HG.trans (grown_of_below hHeld.2.2.2.1 _))⟩
          · have HF2 := hid (HF.out.trans (by rw [if_neg h128', if_pos ⟨.inl hj, ho⟩]))
            have HOO := hid ho
            clear HF ho
            refine wp_region_noPanic ?_
            refine wp_region_held_drew (S := (fun W => W.cell? ⟨g, 1, none⟩ = some (.int .i64 (q + 1)) ∧ W.cell? ⟨w.heap.size, 0, none⟩ = some (.int .i64 a) ∧ W.cell? ⟨w.heap.size, 1, none⟩ = some (.int .i64 b) ∧ Below w1.heap.size w1 W ∧ w1.heap.size ≤ W.heap.size)) (by kernel_rfl) ?hSn (fun hHeld => ?gon)
            case hSn => first | exact hHeld | exact keep5 hHeld (by assumption) | exact keep5 hHeld (below_drewN _ _) | exact keep5 S0 (below_drewN w1 _) | exact keep5 S0 (Below.drew (Below.refl _ _))
            refine wpAnyH_take (i := 0) (oi := { dst := some 54, op := Go.Op.move (Go.Operand.tmp 9), type := 3, pos := "cursor.go:176", after := #[], guard := none }) (v := ?_) rfl (by kernel_rfl) (by kernel_rfl) (by kernel_rfl) (fun _ _ _ h => h) (Or.inl ⟨by rfl, ?hy0n⟩) (by assumption) ?rest0n
            case hy0n => (intro w hSw; (try dsimp only at hSw); go_simp; first | (with_reducible rfl) | (rw [if_neg (by omega)]) | skip)
            simp only [Act.put, List.setIfInBounds_toArray, List.set_cons_zero, List.set_cons_succ]
            refine wpAnyH_take (i := 1) (oi := { dst := some 55, op := Go.Op.move (Go.Operand.tmp 7), type := 3, pos := "cursor.go:176", after := #[], guard := none }) (v := ?_) rfl (by kernel_rfl) (by kernel_rfl) (by kernel_rfl) (fun _ _ _ h => h) (Or.inl ⟨by rfl, ?hy1n⟩) (by assumption) ?rest1n
            case hy1n => (intro w hSw; (try dsimp only at hSw); go_simp; first | (with_reducible rfl) | (rw [if_neg (by omega)]) | skip)
            simp only [Act.put, List.setIfInBounds_toArray, List.set_cons_zero, List.set_cons_succ]
            refine wpAnyH_take (i := 2) (oi := { dst := some 56, op := Go.Op.binOp Go.BinOp.sub 3 (Go.Operand.tmp 55) (Go.Operand.const (Go.Value.int Go.IntKind.i64 1)) 3, type := 3, pos := "cursor.go:176", after := #[{ on := 1, ground := Go.Ground.data }], guard := none }) (v := ?_) rfl (by kernel_rfl) (by kernel_rfl) (by kernel_rfl) (fun _ _ _ h => h) (Or.inl ⟨by rfl, ?hy2n⟩) (by assumption) ?rest2n
            case hy2n => (intro w hSw; (try dsimp only at hSw); go_simp; first | (with_reducible rfl) | (rw [if_neg (by omega)]) | skip)
            simp only [Act.put, List.setIfInBounds_toArray, List.set_cons_zero, List.set_cons_succ]
            refine wpAnyH_take (i := 3) (oi := { dst := some 57, op := Go.Op.binOp Go.BinOp.lss 3 (Go.Operand.tmp 54) (Go.Operand.tmp 56) 3, type := 4, pos := "cursor.go:176", after := #[{ on := 0, ground := Go.Ground.data }, { on := 2, ground := Go.Ground.data }], guard := none }) (v := ?_) rfl (by kernel_rfl) (by kernel_rfl) (by kernel_rfl) (fun _ _ _ h => h) (Or.inl ⟨by rfl, ?hy3n⟩) (by assumption) ?rest3n
            case hy3n => (intro w hSw; (try dsimp only at hSw); go_simp; first | (with_reducible rfl) | (rw [if_neg (by omega)]) | skip)
            simp only [Act.put, List.setIfInBounds_toArray, List.set_cons_zero, List.set_cons_succ]
            refine wpAnyH_take (i := 4) (oi := { dst := some 58, op := Go.Op.move (Go.Operand.tmp 57), type := 4, pos := "cursor.go:176", after := #[{ on := 3, ground := Go.Ground.data }], guard := none }) (v := ?_) rfl (by kernel_rfl) (by kernel_rfl) (by kernel_rfl) (fun _ _ _ h => h) (Or.inl ⟨by rfl, ?hy4n⟩) (by assumption) ?rest4n
            case hy4n => (intro w hSw; (try dsimp only at hSw); go_simp; first | (with_reducible rfl) | (rw [if_neg (by omega)]) | skip)
            simp only [Act.put, List.setIfInBounds_toArray, List.set_cons_zero, List.set_cons_succ]
            refine wpAnyH_take (i := 5) (oi := { dst := some 59, op := Go.Op.move (Go.Operand.tmp 10), type := 5, pos := "cursor.go:176", after := #[{ on := 4, ground := Go.Ground.guard }], guard := some (4, false) }) (v := undef) rfl (by kernel_rfl) (by kernel_rfl) (by kernel_rfl) (fun _ _ _ h => h) (Or.inr ⟨by rfl, rfl⟩) (by assumption) ?_
            simp only [Act.put, List.setIfInBounds_toArray, List.set_cons_zero, List.set_cons_succ]
            refine wpAnyH_take (i := 6) (oi := { dst := some 60, op := Go.Op.move (Go.Operand.tmp 1), type := 3, pos := "cursor.go:176", after := #[{ on := 4, ground := Go.Ground.guard }], guard := some (4, false) }) (v := undef) rfl (by kernel_rfl) (by kernel_rfl) (by kernel_rfl) (fun _ _ _ h => h) (Or.inr ⟨by rfl, rfl⟩) (by assumption) ?_
            simp only [Act.put, List.setIfInBounds_toArray, List.set_cons_zero, List.set_cons_succ]
            refine wpAnyH_take (i := 7) (oi := { dst := some 61, op := Go.Op.move (Go.Operand.tmp 9), type := 3, pos := "cursor.go:176", after := #[{ on := 4, ground := Go.Ground.guard }], guard := some (4, false) }) (v := undef) rfl (by kernel_rfl) (by kernel_rfl) (by kernel_rfl) (fun _ _ _ h => h) (Or.inr ⟨by rfl, rfl⟩) (by assumption) ?_
            simp only [Act.put, List.setIfInBounds_toArray, List.set_cons_zero, List.set_cons_succ]
            refine wpAnyH_take (i := 8) (oi := { dst := some 62, op := Go.Op.binOp Go.BinOp.mul 3 (Go.Operand.const (Go.Value.int Go.IntKind.i64 7)) (Go.Operand.tmp 61) 3, type := 3, pos := "cursor.go:176", after := #[{ on := 7, ground := Go.Ground.data }, { on := 4, ground := Go.Ground.guard }], guard := some (4, false) }) (v := undef) rfl (by kernel_rfl) (by kernel_rfl) (by kernel_rfl) (fun _ _ _ h => h) (Or.inr ⟨by rfl, rfl⟩) (by assumption) ?_
            simp only [Act.put, List.setIfInBounds_toArray, List.set_cons_zero, List.set_cons_succ]
            refine wpAnyH_take (i := 9) (oi := { dst := some 63, op := Go.Op.binOp Go.BinOp.sub 3 (Go.Operand.tmp 60) (Go.Operand.tmp 62) 3, type := 3, pos := "cursor.go:176", after := #[{ on := 6, ground := Go.Ground.data }, { on := 8, ground := Go.Ground.data }, { on := 4, ground := Go.Ground.guard }], guard := some (4, false) }) (v := undef) rfl (by kernel_rfl) (by kernel_rfl) (by kernel_rfl) (fun _ _ _ h => h) (Or.inr ⟨by rfl, rfl⟩) (by assumption) ?_
            simp only [Act.put, List.setIfInBounds_toArray, List.set_cons_zero, List.set_cons_succ]
            refine wpAnyH_take (i := 10) (oi := { dst := some 64, op := Go.Op.call { callee := Go.Callee.value (Go.Operand.func 151), args := #[Go.Operand.tmp 59, Go.Operand.tmp 63], argTypes := #[5, 3] }, type := 4, pos := "cursor.go:176", after := #[{ on := 5, ground := Go.Ground.data }, { on := 9, ground := Go.Ground.data }, { on := 4, ground := Go.Ground.chain }, { on := 4, ground := Go.Ground.guard }], guard := some (4, false) }) (v := undef) rfl (by kernel_rfl) (by kernel_rfl) (by kernel_rfl) (fun _ _ _ h => h) (Or.inr ⟨by rfl, rfl⟩) (by assumption) ?_
            simp only [Act.put, List.setIfInBounds_toArray, List.set_cons_zero, List.set_cons_succ]
            refine wpAnyH_take (i := 11) (oi := { dst := some 65, op := Go.Op.pick (Go.Operand.tmp 58) (Go.Operand.const (Go.Value.bool true)) (Go.Operand.tmp 64), type := 4, pos := "cursor.go:176", after := #[{ on := 4, ground := Go.Ground.data }, { on := 10, ground := Go.Ground.data }], guard := none }) (v := ?_) rfl (by kernel_rfl) (by kernel_rfl) (by kernel_rfl) (fun _ _ _ h => h) (Or.inl ⟨by rfl, ?hy11n⟩) (by assumption) ?rest11n
            case hy11n => (intro w hSw; (try dsimp only at hSw); go_simp; first | (with_reducible rfl) | (rw [if_neg (by omega)]) | skip)
            simp only [Act.put, List.setIfInBounds_toArray, List.set_cons_zero, List.set_cons_succ]
            refine wpAnyH_take (i := 12) (oi := { dst := some 66, op := Go.Op.move (Go.Operand.tmp 65), type := 4, pos := "cursor.go:176", after := #[{ on := 11, ground := Go.Ground.data }, { on := 10, ground := Go.Ground.chain }], guard := none }) (v := ?_) rfl (by kernel_rfl) (by kernel_rfl) (by kernel_rfl) (fun _ _ _ h => h) (Or.inl ⟨by rfl, ?hy12n⟩) (by assumption) ?rest12n
            case hy12n => (intro w hSw; (try dsimp only at hSw); go_simp; first | (with_reducible rfl) | (rw [if_neg (by omega)]) | skip)
            simp only [Act.put, List.setIfInBounds_toArray, List.set_cons_zero, List.set_cons_succ]
            refine wpAnyH_take (i := 13) (oi := { dst := some 67, op := Go.Op.load 85 (Go.Operand.tmp 5), type := 85, pos := "cursor.go:176", after := #[{ on := 12, ground := Go.Ground.guard }], guard := some (12, true) }) (v := ?_) rfl (by kernel_rfl) (by kernel_rfl) (by kernel_rfl) (fun _ _ _ h => h) (Or.inl ⟨by rfl, ?hy13n⟩) (by assumption) ?rest13n
            case hy13n => (intro w hSw; (try dsimp only at hSw); go_simp; first | (with_reducible rfl) | (rw [if_neg (by omega)]) | skip)
            simp only [Act.put, List.setIfInBounds_toArray, List.set_cons_zero, List.set_cons_succ]
            refine wpAnyH_take (i := 14) (oi := { dst := some 68, op := Go.Op.move (Go.Operand.tmp 0), type := 81, pos := "cursor.go:176", after := #[{ on := 12, ground := Go.Ground.guard }], guard := some (12, true) }) (v := ?_) rfl (by kernel_rfl) (by kernel_rfl) (by kernel_rfl) (fun _ _ _ h => h) (Or.inl ⟨by rfl, ?hy14n⟩) (by assumption) ?rest14n
            case hy14n => (intro w hSw; (try dsimp only at hSw); go_simp; first | (with_reducible rfl) | (rw [if_neg (by omega)]) | skip)
            simp only [Act.put, List.setIfInBounds_toArray, List.set_cons_zero, List.set_cons_succ]
            refine wpAnyH_take (i := 18) (oi := { dst := some 72, op := Go.Op.move (Go.Operand.tmp 0), type := 81, pos := "cursor.go:176", after := #[], guard := none }) (v := ?_) rfl (by kernel_rfl) (by kernel_rfl) (by kernel_rfl) (fun _ _ _ h => h) (Or.inl ⟨by rfl, ?hy18n⟩) (by assumption) ?rest18n
            case hy18n => (intro w hSw; (try dsimp only at hSw); go_simp; first | (with_reducible rfl) | (rw [if_neg (by omega)]) | skip)
            simp only [Act.put, List.setIfInBounds_toArray, List.set_cons_zero, List.set_cons_succ]
            refine wpAnyH_take (i := 19) (oi := { dst := some 73, op := Go.Op.nilCheck (Go.Operand.tmp 72), type := 0, pos := "cursor.go:176", after := #[{ on := 18, ground := Go.Ground.data }], guard := none }) (v := ?_) rfl (by kernel_rfl) (by kernel_rfl) (by kernel_rfl) (fun _ _ _ h => h) (Or.inl ⟨by rfl, ?hy19n⟩) (by assumption) ?rest19n
            case hy19n => (intro w hSw; (try dsimp only at hSw); go_simp; first | (with_reducible rfl) | (rw [if_neg (by omega)]) | skip)
            simp only [Act.put, List.setIfInBounds_toArray, List.set_cons_zero, List.set_cons_succ]
            refine wpAnyH_take (i := 20) (oi := { dst := some 74, op := Go.Op.fieldAddr 136 (Go.Operand.tmp 73) 1, type := 0, pos := "cursor.go:176", after := #[{ on := 19, ground := Go.Ground.data }], guard := none }) (v := ?_) rfl (by kernel_rfl) (by kernel_rfl) (by kernel_rfl) (fun _ _ _ h => h) (Or.inl ⟨by rfl, ?hy20n⟩) (by assumption) ?rest20n
            case hy20n => (intro w hSw; (try dsimp only at hSw); go_simp; first | (with_reducible rfl) | (rw [if_neg (by omega)]) | skip)
            simp only [Act.put, List.setIfInBounds_toArray, List.set_cons_zero, List.set_cons_succ]
            refine wpAnyH_take (i := 21) (oi := { dst := some 75, op := Go.Op.load 3 (Go.Operand.tmp 74), type := 3, pos := "cursor.go:176", after := #[{ on := 20, ground := Go.Ground.data }], guard := none }) (v := ?_) rfl (by kernel_rfl) (by kernel_rfl) (by kernel_rfl) (fun _ _ _ h => h) (Or.inl ⟨by rfl, ?hy21n⟩) (by assumption) ?rest21n
            case hy21n => (intro w hSw; (try dsimp only at hSw); go_simp; first | (with_reducible rfl) | (rw [if_neg (by omega)]) | skip)
            simp only [Act.put, List.setIfInBounds_toArray, List.set_cons_zero, List.set_cons_succ]
            refine wpAnyH_take (i := 22) (oi := { dst := some 76, op := Go.Op.binOp Go.BinOp.sub 3 (Go.Operand.tmp 75) (Go.Operand.const (Go.Value.int Go.IntKind.i64 1)) 3, type := 3, pos := "cursor.go:176", after := #[{ on := 21, ground := Go.Ground.data }], guard := none }) (v := ?_) rfl (by kernel_rfl) (by kernel_rfl) (by kernel_rfl) (fun _ _ _ h => h) (Or.inl ⟨by rfl, ?hy22n⟩) (by assumption) ?rest22n
            case hy22n => (intro w hSw; (try dsimp only at hSw); go_simp; first | (with_reducible rfl) | (rw [if_neg (by omega)]) | skip)
            simp only [Act.put, List.setIfInBounds_toArray, List.set_cons_zero, List.set_cons_succ]
            refine wpAnyH_ready (rs := [15]) (by kernel_rfl) (by simp) ?_
            refine AllReadyH.cons (o := { dst := some 69, op := Go.Op.call { callee := Go.Callee.value (Go.Operand.func 68), args := #[Go.Operand.tmp 68], argTypes := #[81] }, type := 3, pos := "cursor.go:176", after := #[{ on := 14, ground := Go.Ground.data }, { on := 12, ground := Go.Ground.chain }, { on := 12, ground := Go.Ground.guard }], guard := some (12, true) }) rfl (fun K hK => ?_) AllReadyH.nil
            go_simp
            go_at_call 68; (with_reducible refine (HR1.out _ hHeld.2.2.2.1).mono ?_); rintro e w2 ⟨rfl, hb2⟩
            refine hK.out _ _ ?_ (fun hHeld => ?_)
            · (try dsimp only); first | exact hHeld | exact keep5 hHeld (by assumption) | exact keep5 hHeld (below_drewN _ _) | exact keep5 S0 (below_drewN w1 _) | exact keep5 S0 (Below.drew (Below.refl _ _))
            clear hK K
            try simp only [Act.put, List.setIfInBounds_toArray, List.set_cons_zero, List.set_cons_succ]
            refine wpAnyH_ready (rs := [16]) (by kernel_rfl) (by simp) ?_
            refine AllReadyH.cons (o := { dst := some 70, op := Go.Op.call { callee := Go.Callee.value (Go.Operand.func 152), args := #[Go.Operand.tmp 67, Go.Operand.tmp 69], argTypes := #[85, 3] }, type := 4, pos := "cursor.go:176", after := #[{ on := 13, ground := Go.Ground.data }, { on := 15, ground := Go.Ground.data }, { on := 15, ground := Go.Ground.chain }, { on := 12, ground := Go.Ground.guard }], guard := some (12, true) }) rfl (fun K hK => ?_) AllReadyH.nil
            go_simp
            go_at_call 152; (with_reducible refine (chas_any a b (rest (q + 1) lim) _).mono ?_); rintro e w5 ⟨he, hb5⟩; rw [HOO.out] at he; subst he
            refine hK.out _ _ ?_ (fun hHeld => ?_)
            · (try dsimp only); first | exact hHeld | exact keep5 hHeld (by assumption) | exact keep5 hHeld (below_drewN _ _) | exact keep5 S0 (below_drewN w1 _) | exact keep5 S0 (Below.drew (Below.refl _ _))
            clear hK K
            try simp only [Act.put, List.setIfInBounds_toArray, List.set_cons_zero, List.set_cons_succ]
            refine wpAnyH_take (i := 17) (oi := { dst := some 71, op := Go.Op.pick (Go.Operand.tmp 66) (Go.Operand.tmp 70) (Go.Operand.const (Go.Value.bool false)), type := 4, pos := "cursor.go:176", after := #[{ on := 12, ground := Go.Ground.data }, { on := 16, ground := Go.Ground.data }], guard := none }) (v := ?_) rfl (by kernel_rfl) (by kernel_rfl) (by kernel_rfl) (fun _ _ _ h => h) (Or.inl ⟨by rfl, ?hy17n⟩) (by assumption) ?rest17n
            case hy17n => (intro w hSw; (try dsimp only at hSw); go_simp; first | (with_reducible rfl) | (rw [if_neg (by omega)]) | skip)
            simp only [Act.put, List.setIfInBounds_toArray, List.set_cons_zero, List.set_cons_succ]
            refine wpAnyH_ready (rs := [23]) (by kernel_rfl) (by simp) ?_
            refine AllReadyH.cons (o := { dst := some 77, op := Go.Op.call { callee := Go.Callee.value (Go.Operand.func 92), args := #[Go.Operand.tmp 71, Go.Operand.tmp 76], argTypes := #[4, 3] }, type := 0, pos := "cursor.go:176", after := #[{ on := 17, ground := Go.Ground.data }, { on := 22, ground := Go.Ground.data }, { on := 16, ground := Go.Ground.chain }], guard := none }) rfl (fun K hK => ?_) AllReadyH.nil
            go_simp
            (try rw [hwq]); go_at_call 92; (with_reducible refine (need_yes q _).mono ?_); rintro e w3 ⟨rfl, rfl⟩
            refine hK.out _ _ ?_ (fun hHeld => ?_)
            · (try dsimp only); first | exact hHeld | exact keep5 hHeld (by assumption) | exact keep5 hHeld (below_drewN _ _) | exact keep5 S0 (below_drewN w1 _) | exact keep5 S0 (Below.drew (Below.refl _ _))
            clear hK K
            try simp only [Act.put, List.setIfInBounds_toArray, List.set_cons_zero, List.set_cons_succ]
            refine wpAnyH_done (by kernel_rfl) ?_ _
            refine NoPanic.normal ?_
            go_wp2_with fail
            all_goals
              go_ret
              show PostI g A c l lim w (sM n a b m l lim (m + 1) p) _ _
              rw [HF2.out]
              exact ⟨⟨_, rfl⟩, HC1.out.below hHeld.2.2.2.1, HR.out.trans (HG.trans (grown_of_below hHeld.2.2.2.1 _))⟩
end Go.Proofs.YtiohiiekaofkbaaDoor
