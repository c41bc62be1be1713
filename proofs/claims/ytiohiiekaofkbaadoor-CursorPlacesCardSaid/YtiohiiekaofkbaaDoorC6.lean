/- Within. -/
import Derived.Test.YtiohiiekaofkbaaDoorC4
import Derived.Test.YtiohiiekaofkbaaDoorC5
import Derived.StillTailTactics
namespace Go.Proofs.YtiohiiekaofkbaaDoor
set_option linter.unusedVariables false
set_option linter.unusedSimpArgs false
open Go.RowKit

def inLim (p lim n : Int) : Int := p + min (max 0 n) (rest p lim)
theorem inLim_wrap {p lim n : Int} (p0 : 0 ≤ p) (p1 : p ≤ 1000000000) (h : 0 ≤ rest p lim ∧ rest p lim ≤ 1099511627776) : IntKind.i64.wrap (p + if rest p lim < if 0 < n then n else 0 then rest p lim else if 0 < n then n else 0) = inLim p lim n := by
  rw [IntKind.wrap_i64]; unfold inLim; omega
theorem moved2 {g : Nat} {sl : Value} {p lim : Int} {w : World} (h : Cu g sl p lim w) (a : Nat) (lim' : Int) :
    Cu g sl p lim' ((w.drewN a).setCell ⟨g, 2, none⟩ (.int .i64 lim')) ∧ Rd g w ((w.drewN a).setCell ⟨g, 2, none⟩ (.int .i64 lim')) := by
  obtain ⟨c0, c1, c2, f1, f2⟩ := h
  have d : ∀ i, i ≠ 2 → (w.setCell ⟨g, 2, none⟩ (.int .i64 lim')).cell? ⟨g, i, none⟩ = w.cell? ⟨g, i, none⟩ := by
    intro i hi; apply World.cell?_setCell_other; intro e; injection e with _ e _; exact hi e.symm
  refine ⟨⟨(d 0 (by decide)).trans c0, (d 1 (by decide)).trans c1, (by apply World.cell?_setCell_same; exact c2), ?_, ?_⟩, ?_⟩
  · exact (World.frozen?_setCell _ _ _ _).trans f1
  · exact (World.frozen?_setCell _ _ _ _).trans f2
  · exact (grown_of_below (below_drewN w a) _).trans (grown_setCell _ g 2 _)
theorem moved2p {g : Nat} {sl : Value} {p lim : Int} {w : World} (h : Cu g sl p lim w) (lim' : Int) :
    Cu g sl p lim' (w.setCell ⟨g, 2, none⟩ (.int .i64 lim')) ∧ Rd g w (w.setCell ⟨g, 2, none⟩ (.int .i64 lim')) := by
  obtain ⟨c0, c1, c2, f1, f2⟩ := h
  have d : ∀ i, i ≠ 2 → (w.setCell ⟨g, 2, none⟩ (.int .i64 lim')).cell? ⟨g, i, none⟩ = w.cell? ⟨g, i, none⟩ := by
    intro i hi; apply World.cell?_setCell_other; intro e; injection e with _ e _; exact hi e.symm
  refine ⟨⟨(d 0 (by decide)).trans c0, (d 1 (by decide)).trans c1, (by apply World.cell?_setCell_same; exact c2), ?_, ?_⟩, ?_⟩
  · exact (World.frozen?_setCell _ _ _ _).trans f1
  · exact (World.frozen?_setCell _ _ _ _).trans f2
  · exact grown_setCell _ g 2 _
set_option maxHeartbeats 4000000 in
theorem within_walk (g : Nat) (A : Option Addr) (c : Nat) (l : List Int) (p lim n : Int) (w : World) (k : Nat) (caps : Array Value) (Dn : Int → World → Prop) (St : Int → Int → World → Prop)
    (h : CB g A c l p lim w) (hp : lim < 0 ∨ p ≤ lim) (hn : -9223372036854775808 ≤ n) (hn2 : n ≤ 9223372036854775807) (hE : Enters k)
    (hd : ∀ W, Rd g w W → CB g A c l p (inLim p lim n) W → Calls Tryd.prog k caps W (fun e w' => (e = .returned (.tuple #[]) ∧ ∃ p', CB g A c l p' (inLim p lim n) w' ∧ Dn p' w') ∨ (∃ q er, Stops q er e ∧ St q er w'))) :
    Calls Tryd.prog 45 #[.pointer (some ⟨g, 0, none⟩), .int .i64 n, .func (.func k) #[] caps] w (fun e w'' => (e = .returned (.tuple #[]) ∧ ∃ p' w', p' = inLim p lim n ∧ Dn p' w' ∧ CB g A c l p' lim w'' ∧ Rd g w' w'') ∨ (∃ p' w', p' ≠ inLim p lim n ∧ Dn p' w' ∧ Stops p' 2 e ∧ Rd g w' w'') ∨ (∃ q er, Stops q er e ∧ St q er w'')) := by
  have HC := hid h
  have HD := hid hd
  have HE : ∀ (args : Array Value) (w : World), (callFunc k args).run Tryd.prog w = .ok (.enter k args) w := hE
  have p0 := h.p0
  have p1 := h.p1
  have hl := h.hl
  have l2 := h.l2
  have HRR := hid (show 0 ≤ rest p lim ∧ rest p lim ≤ 1099511627776 by unfold rest; split <;> omega)
  obtain ⟨c0, c1, c2, f1, f2⟩ := h.cu
  clear h hd hE
  go_enter Tryd.func45, Tryd.ntmps45
  go_upto_region 1 with (fail)
  have HR := hid (fun W (hb : Below w.heap.size w W) => rest_walk g (.slice A l.length c) p lim W (HC.out.cu.below hb) p0 (by omega) (by omega))
  refine wp_region_noPanic ?_
  refine wp_region_held_drew (S := (fun W => W.cell? ⟨g, 1, none⟩ = some (.int .i64 p))) (by kernel_rfl) ?hSa1 (fun hHeld => ?goa1)
  case hSa1 => exact c1
  refine wpAnyH_take (i := 0) (oi := { dst := some 11, op := Go.Op.move (Go.Operand.tmp 0), type := 81, pos := "cursor.go:202", after := #[], guard := none }) (v := ?_) rfl (by kernel_rfl) (by kernel_rfl) (by kernel_rfl) (fun _ _ _ h => h) (Or.inl ⟨by rfl, ?hya2⟩) (by assumption) ?resta2
  case hya2 => (intro w hSw; (try dsimp only at hSw); go_simp; first | (with_reducible rfl) | (rw [if_neg (by omega)]) | skip)
  simp only [Act.put, List.setIfInBounds_toArray, List.set_cons_zero, List.set_cons_succ]
  refine wpAnyH_take (i := 1) (oi := { dst := some 12, op := Go.Op.move (Go.Operand.tmp 0), type := 81, pos := "cursor.go:202", after := #[], guard := none }) (v := ?_) rfl (by kernel_rfl) (by kernel_rfl) (by kernel_rfl) (fun _ _ _ h => h) (Or.inl ⟨by rfl, ?hya3⟩) (by assumption) ?resta3
  case hya3 => (intro w hSw; (try dsimp only at hSw); go_simp; first | (with_reducible rfl) | (rw [if_neg (by omega)]) | skip)
  simp only [Act.put, List.setIfInBounds_toArray, List.set_cons_zero, List.set_cons_succ]
  refine wpAnyH_take (i := 2) (oi := { dst := some 13, op := Go.Op.nilCheck (Go.Operand.tmp 12), type := 0, pos := "cursor.go:202", after := #[{ on := 1, ground := Go.Ground.data }], guard := none }) (v := ?_) rfl (by kernel_rfl) (by kernel_rfl) (by kernel_rfl) (fun _ _ _ h => h) (Or.inl ⟨by rfl, ?hya4⟩) (by assumption) ?resta4
  case hya4 => (intro w hSw; (try dsimp only at hSw); go_simp; first | (with_reducible rfl) | (rw [if_neg (by omega)]) | skip)
  simp only [Act.put, List.setIfInBounds_toArray, List.set_cons_zero, List.set_cons_succ]
  refine wpAnyH_take (i := 3) (oi := { dst := some 14, op := Go.Op.fieldAddr 136 (Go.Operand.tmp 13) 1, type := 0, pos := "cursor.go:202", after := #[{ on := 2, ground := Go.Ground.data }], guard := none }) (v := ?_) rfl (by kernel_rfl) (by kernel_rfl) (by kernel_rfl) (fun _ _ _ h => h) (Or.inl ⟨by rfl, ?hya5⟩) (by assumption) ?resta5
  case hya5 => (intro w hSw; (try dsimp only at hSw); go_simp; first | (with_reducible rfl) | (rw [if_neg (by omega)]) | skip)
  simp only [Act.put, List.setIfInBounds_toArray, List.set_cons_zero, List.set_cons_succ]
  refine wpAnyH_take (i := 4) (oi := { dst := some 15, op := Go.Op.load 3 (Go.Operand.tmp 14), type := 3, pos := "cursor.go:202", after := #[{ on := 3, ground := Go.Ground.data }], guard := none }) (v := ?_) rfl (by kernel_rfl) (by kernel_rfl) (by kernel_rfl) (fun _ _ _ h => h) (Or.inl ⟨by rfl, ?hya6⟩) (by assumption) ?resta6
  case hya6 => (intro w hSw; (try dsimp only at hSw); go_simp; first | (with_reducible rfl) | (rw [if_neg (by omega)]) | skip)
  simp only [Act.put, List.setIfInBounds_toArray, List.set_cons_zero, List.set_cons_succ]
  refine wpAnyH_take (i := 5) (oi := { dst := some 16, op := Go.Op.move (Go.Operand.tmp 1), type := 3, pos := "cursor.go:202", after := #[], guard := none }) (v := ?_) rfl (by kernel_rfl) (by kernel_rfl) (by kernel_rfl) (fun _ _ _ h => h) (Or.inl ⟨by rfl, ?hya7⟩) (by assumption) ?resta7
  case hya7 => (intro w hSw; (try dsimp only at hSw); go_simp; first | (with_reducible rfl) | (rw [if_neg (by omega)]) | skip)
  simp only [Act.put, List.setIfInBounds_toArray, List.set_cons_zero, List.set_cons_succ]
  refine wpAnyH_take (i := 6) (oi := { dst := some 17, op := Go.Op.call { callee := Go.Callee.builtin Go.Builtin.max, args := #[Go.Operand.const (Go.Value.int Go.IntKind.i64 0), Go.Operand.tmp 16], argTypes := #[3, 3] }, type := 3, pos := "cursor.go:202", after := #[{ on := 5, ground := Go.Ground.data }], guard := none }) (v := ?_) rfl (by kernel_rfl) (by kernel_rfl) (by kernel_rfl) (fun _ _ _ h => h) (Or.inl ⟨by rfl, ?hya8⟩) (by assumption) ?resta8
  case hya8 => (intro w hSw; (try dsimp only at hSw); go_simp; first | (with_reducible rfl) | (rw [if_neg (by omega)]) | skip)
  simp only [Act.put, List.setIfInBounds_toArray, List.set_cons_zero, List.set_cons_succ]
  refine wpAnyH_take (i := 7) (oi := { dst := some 18, op := Go.Op.move (Go.Operand.tmp 0), type := 81, pos := "cursor.go:202", after := #[], guard := none }) (v := ?_) rfl (by kernel_rfl) (by kernel_rfl) (by kernel_rfl) (fun _ _ _ h => h) (Or.inl ⟨by rfl, ?hya9⟩) (by assumption) ?resta9
  case hya9 => (intro w hSw; (try dsimp only at hSw); go_simp; first | (with_reducible rfl) | (rw [if_neg (by omega)]) | skip)
  simp only [Act.put, List.setIfInBounds_toArray, List.set_cons_zero, List.set_cons_succ]
  refine wpAnyH_ready (rs := [8]) (by kernel_rfl) (by simp) ?_
  refine AllReadyH.cons (o := { dst := some 19, op := Go.Op.call { callee := Go.Callee.value (Go.Operand.func 68), args := #[Go.Operand.tmp 18], argTypes := #[81] }, type := 3, pos := "cursor.go:202", after := #[{ on := 7, ground := Go.Ground.data }], guard := none }) rfl (fun K hK => ?_) AllReadyH.nil
  go_simp
  go_at_call 68; (with_reducible refine (HR.out _ (Below.drew (Below.refl _ _))).mono ?_); rintro e w2 ⟨rfl, n1, rfl⟩
  refine hK.out _ _ ?_ (fun hHeld => ?_)
  · (try dsimp only); exact c1
  clear hK K
  try simp only [Act.put, List.setIfInBounds_toArray, List.set_cons_zero, List.set_cons_succ]
  refine wpAnyH_take (i := 9) (oi := { dst := some 20, op := Go.Op.call { callee := Go.Callee.builtin Go.Builtin.min, args := #[Go.Operand.tmp 17, Go.Operand.tmp 19], argTypes := #[3, 3] }, type := 3, pos := "cursor.go:202", after := #[{ on := 6, ground := Go.Ground.data }, { on := 8, ground := Go.Ground.data }], guard := none }) (v := ?_) rfl (by kernel_rfl) (by kernel_rfl) (by kernel_rfl) (fun _ _ _ h => h) (Or.inl ⟨by rfl, ?hya10⟩) (by assumption) ?resta10
  case hya10 => (intro w hSw; (try dsimp only at hSw); go_simp; first | (with_reducible rfl) | (rw [if_neg (by omega)]) | skip)
  simp only [Act.put, List.setIfInBounds_toArray, List.set_cons_zero, List.set_cons_succ]
  refine wpAnyH_take (i := 10) (oi := { dst := some 21, op := Go.Op.binOp Go.BinOp.add 3 (Go.Operand.tmp 15) (Go.Operand.tmp 20) 3, type := 3, pos := "cursor.go:202", after := #[{ on := 4, ground := Go.Ground.data }, { on := 9, ground := Go.Ground.data }], guard := none }) (v := ?_) rfl (by kernel_rfl) (by kernel_rfl) (by kernel_rfl) (fun _ _ _ h => h) (Or.inl ⟨by rfl, ?hya11⟩) (by assumption) ?resta11
  case hya11 => (intro w hSw; (try dsimp only at hSw); go_simp; first | (with_reducible rfl) | (rw [if_neg (by omega)]) | skip)
  simp only [Act.put, List.setIfInBounds_toArray, List.set_cons_zero, List.set_cons_succ]
  refine wpAnyH_take (i := 11) (oi := { dst := some 22, op := Go.Op.nilCheck (Go.Operand.tmp 11), type := 0, pos := "cursor.go:202", after := #[{ on := 0, ground := Go.Ground.data }, { on := 0, ground := Go.Ground.phase }, { on := 1, ground := Go.Ground.phase }, { on := 2, ground := Go.Ground.phase }, { on := 3, ground := Go.Ground.phase }, { on := 4, ground := Go.Ground.phase }, { on := 5, ground := Go.Ground.phase }, { on := 6, ground := Go.Ground.phase }, { on := 7, ground := Go.Ground.phase }, { on := 8, ground := Go.Ground.phase }, { on := 9, ground := Go.Ground.phase }, { on := 10, ground := Go.Ground.phase }], guard := none }) (v := ?_) rfl (by kernel_rfl) (by kernel_rfl) (by kernel_rfl) (fun _ _ _ h => h) (Or.inl ⟨by rfl, ?hya12⟩) (by assumption) ?resta12
  case hya12 => (intro w hSw; (try dsimp only at hSw); go_simp; first | (with_reducible rfl) | (rw [if_neg (by omega)]) | skip)
  simp only [Act.put, List.setIfInBounds_toArray, List.set_cons_zero, List.set_cons_succ]
  refine wpAnyH_take (i := 12) (oi := { dst := some 23, op := Go.Op.fieldAddr 136 (Go.Operand.tmp 22) 2, type := 0, pos := "cursor.go:202", after := #[{ on := 11, ground := Go.Ground.data }, { on := 0, ground := Go.Ground.phase }, { on := 1, ground := Go.Ground.phase }, { on := 2, ground := Go.Ground.phase }, { on := 3, ground := Go.Ground.phase }, { on := 4, ground := Go.Ground.phase }, { on := 5, ground := Go.Ground.phase }, { on := 6, ground := Go.Ground.phase }, { on := 7, ground := Go.Ground.phase }, { on := 8, ground := Go.Ground.phase }, { on := 9, ground := Go.Ground.phase }, { on := 10, ground := Go.Ground.phase }], guard := none }) (v := ?_) rfl (by kernel_rfl) (by kernel_rfl) (by kernel_rfl) (fun _ _ _ h => h) (Or.inl ⟨by rfl, ?hya13⟩) (by assumption) ?resta13
  case hya13 => (intro w hSw; (try dsimp only at hSw); go_simp; first | (with_reducible rfl) | (rw [if_neg (by omega)]) | skip)
  simp only [Act.put, List.setIfInBounds_toArray, List.set_cons_zero, List.set_cons_succ]
  refine wpAnyH_ready (rs := [13]) (by kernel_rfl) (by simp) ?_
  refine AllReadyH.cons (o := { dst := none, op := Go.Op.store 3 (Go.Operand.tmp 23) (Go.Operand.tmp 21), type := 0, pos := "cursor.go:202", after := #[{ on := 12, ground := Go.Ground.data }, { on := 10, ground := Go.Ground.data }, { on := 8, ground := Go.Ground.chain }, { on := 0, ground := Go.Ground.phase }, { on := 1, ground := Go.Ground.phase }, { on := 2, ground := Go.Ground.phase }, { on := 3, ground := Go.Ground.phase }, { on := 4, ground := Go.Ground.phase }, { on := 5, ground := Go.Ground.phase }, { on := 6, ground := Go.Ground.phase }, { on := 7, ground := Go.Ground.phase }, { on := 8, ground := Go.Ground.phase }, { on := 9, ground := Go.Ground.phase }, { on := 10, ground := Go.Ground.phase }], guard := none }) rfl (fun K hK => ?_) AllReadyH.nil
  go_simp
  refine hK.out _ _ ?_ (fun hHeld => ?_)
  · (try dsimp only); exact (World.cell?_setCell_other _ _ _ _ (by intro e; injection e with _ e _; simp at e)).trans c1
  clear hK K
  try simp only [Act.put, List.setIfInBounds_toArray, List.set_cons_zero, List.set_cons_succ]
  refine wpAnyH_done (by kernel_rfl) ?_ _
  refine NoPanic.normal ?_
  rw [inLim_wrap p0 (by omega) HRR.out]
  generalize (if rest p lim < if 0 < n then n else 0 then rest p lim else if 0 < n then n else 0) = t1
  generalize (if 0 < n then n else 0) = t2
  obtain ⟨hm, hg⟩ := moved2 HC.out.cu (1 + n1) (inLim p lim n)
  have HB := hid (HC.out.rd hg hm p0 p1 (by have := HRR.out; unfold inLim; omega))
  have HG := hid hg
  clear hm hg c0 c1 c2 f1 f2 hHeld
  go_upto_region 3 with (first | ((with_reducible refine (HD.out _ HG.out HB.out).mono ?_); rintro e w1 (⟨rfl, p', hcb, hdn⟩ | ⟨q, er, rfl, hst⟩)))
  · have HCB := hid hcb
    have HDN := hid hdn
    have HR3 := hid (rest_b hcb)
    have q0 := hcb.p0
    have q1 := hcb.p1
    have HL := hid (show 0 ≤ inLim p lim n by have := HRR.out; unfold inLim; omega)
    have S0 : w1.cell? ⟨g, 0, none⟩ = some (.slice A l.length c) ∧ w1.cell? ⟨g, 1, none⟩ = some (.int .i64 p') ∧ w1.cell? ⟨g, 2, none⟩ = some (.int .i64 (inLim p lim n)) ∧ Below w1.heap.size w1 w1 ∧ w1.heap.size ≤ w1.heap.size := ⟨hcb.cu.c0, hcb.cu.c1, hcb.cu.c2, Below.refl _ _, Nat.le_refl _⟩
    clear hcb hdn
    by_cases he : p' = inLim p lim n
    · have h0 : rest p' (inLim p lim n) = 0 := by unfold rest; rw [if_neg (by have := HL.out; omega)]; omega
      have HP := hid he
      clear he
      refine wp_region_noPanic ?_
      refine wp_region_held_drew (S := (fun W => W.cell? ⟨g, 0, none⟩ = some (.slice A l.length c) ∧ W.cell? ⟨g, 1, none⟩ = some (.int .i64 p') ∧ W.cell? ⟨g, 2, none⟩ = some (.int .i64 (inLim p lim n)) ∧ Below w1.heap.size w1 W ∧ w1.heap.size ≤ W.heap.size)) (by kernel_rfl) ?hSb (fun hHeld => ?gob)
      case hSb => first | exact hHeld | exact keepN hHeld (by assumption) | exact keepN S0 (Below.drew (Below.refl _ _))
      refine wpAnyH_take (i := 0) (oi := { dst := some 26, op := Go.Op.move (Go.Operand.tmp 0), type := 81, pos := "cursor.go:204", after := #[], guard := none }) (v := ?_) rfl (by kernel_rfl) (by kernel_rfl) (by kernel_rfl) (fun _ _ _ h => h) (Or.inl ⟨by rfl, ?hy0b⟩) (by assumption) ?rest0b
      case hy0b => (intro w hSw; (try dsimp only at hSw); go_simp; first | (with_reducible rfl) | (rw [if_neg (by omega)]) | skip)
      simp only [Act.put, List.setIfInBounds_toArray, List.set_cons_zero, List.set_cons_succ]
      refine wpAnyH_take (i := 3) (oi := { dst := some 29, op := Go.Op.move (Go.Operand.tmp 0), type := 81, pos := "cursor.go:204", after := #[], guard := none }) (v := ?_) rfl (by kernel_rfl) (by kernel_rfl) (by kernel_rfl) (fun _ _ _ h => h) (Or.inl ⟨by rfl, ?hy3b⟩) (by assumption) ?rest3b
      case hy3b => (intro w hSw; (try dsimp only at hSw); go_simp; first | (with_reducible rfl) | (rw [if_neg (by omega)]) | skip)
      simp only [Act.put, List.setIfInBounds_toArray, List.set_cons_zero, List.set_cons_succ]
      refine wpAnyH_take (i := 4) (oi := { dst := some 30, op := Go.Op.nilCheck (Go.Operand.tmp 29), type := 0, pos := "cursor.go:204", after := #[{ on := 3, ground := Go.Ground.data }], guard := none }) (v := ?_) rfl (by kernel_rfl) (by kernel_rfl) (by kernel_rfl) (fun _ _ _ h => h) (Or.inl ⟨by rfl, ?hy4b⟩) (by assumption) ?rest4b
      case hy4b => (intro w hSw; (try dsimp only at hSw); go_simp; first | (with_reducible rfl) | (rw [if_neg (by omega)]) | skip)
      simp only [Act.put, List.setIfInBounds_toArray, List.set_cons_zero, List.set_cons_succ]
      refine wpAnyH_take (i := 5) (oi := { dst := some 31, op := Go.Op.fieldAddr 136 (Go.Operand.tmp 30) 1, type := 0, pos := "cursor.go:204", after := #[{ on := 4, ground := Go.Ground.data }], guard := none }) (v := ?_) rfl (by kernel_rfl) (by kernel_rfl) (by kernel_rfl) (fun _ _ _ h => h) (Or.inl ⟨by rfl, ?hy5b⟩) (by assumption) ?rest5b
      case hy5b => (intro w hSw; (try dsimp only at hSw); go_simp; first | (with_reducible rfl) | (rw [if_neg (by omega)]) | skip)
      simp only [Act.put, List.setIfInBounds_toArray, List.set_cons_zero, List.set_cons_succ]
      refine wpAnyH_take (i := 6) (oi := { dst := some 32, op := Go.Op.load 3 (Go.Operand.tmp 31), type := 3, pos := "cursor.go:204", after := #[{ on := 5, ground := Go.Ground.data }], guard := none }) (v := ?_) rfl (by kernel_rfl) (by kernel_rfl) (by kernel_rfl) (fun _ _ _ h => h) (Or.inl ⟨by rfl, ?hy6b⟩) (by assumption) ?rest6b
      case hy6b => (intro w hSw; (try dsimp only at hSw); go_simp; first | (with_reducible rfl) | (rw [if_neg (by omega)]) | skip)
      simp only [Act.put, List.setIfInBounds_toArray, List.set_cons_zero, List.set_cons_succ]
      refine wpAnyH_ready (rs := [1]) (by kernel_rfl) (by simp) ?_
      refine AllReadyH.cons (o := { dst := some 27, op := Go.Op.call { callee := Go.Callee.value (Go.Operand.func 68), args := #[Go.Operand.tmp 26], argTypes := #[81] }, type := 3, pos := "cursor.go:204", after := #[{ on := 0, ground := Go.Ground.data }], guard := none }) rfl (fun K hK => ?_) AllReadyH.nil
      go_simp
      go_at_call 68; (with_reducible refine (HR3.out _ hHeld.2.2.2.1).mono ?_); rintro e w2 ⟨rfl, hb2⟩
      refine hK.out _ _ ?_ (fun hHeld => ?_)
      · (try dsimp only); first | exact hHeld | exact keepN hHeld (by assumption) | exact keepN S0 (Below.drew (Below.refl _ _))
      clear hK K
      try simp only [Act.put, List.setIfInBounds_toArray, List.set_cons_zero, List.set_cons_succ]
      refine wpAnyH_take (i := 2) (oi := { dst := some 28, op := Go.Op.binOp Go.BinOp.eql 3 (Go.Operand.tmp 27) (Go.Operand.const (Go.Value.int Go.IntKind.i64 0)) 3, type := 4, pos := "cursor.go:204", after := #[{ on := 1, ground := Go.Ground.data }], guard := none }) (v := ?_) rfl (by kernel_rfl) (by kernel_rfl) (by kernel_rfl) (fun _ _ _ h => h) (Or.inl ⟨by rfl, ?hy2b⟩) (by assumption) ?rest2b
      case hy2b => (intro w hSw; (try dsimp only at hSw); go_simp; first | (with_reducible rfl) | (rw [if_neg (by omega)]) | skip)
      simp only [Act.put, List.setIfInBounds_toArray, List.set_cons_zero, List.set_cons_succ]
      refine wpAnyH_ready (rs := [7]) (by kernel_rfl) (by simp) ?_
      refine AllReadyH.cons (o := { dst := some 33, op := Go.Op.call { callee := Go.Callee.value (Go.Operand.func 92), args := #[Go.Operand.tmp 28, Go.Operand.tmp 32], argTypes := #[4, 3] }, type := 0, pos := "cursor.go:204", after := #[{ on := 2, ground := Go.Ground.data }, { on := 6, ground := Go.Ground.data }, { on := 1, ground := Go.Ground.chain }], guard := none }) rfl (fun K hK => ?_) AllReadyH.nil
      go_simp
      go_at_call 92; (with_reducible refine (need_yes p' _).mono ?_); rintro e w3 ⟨rfl, rfl⟩
      refine hK.out _ _ ?_ (fun hHeld => ?_)
      · (try dsimp only); first | exact hHeld | exact keepN hHeld (by assumption) | exact keepN S0 (Below.drew (Below.refl _ _))
      clear hK K
      try simp only [Act.put, List.setIfInBounds_toArray, List.set_cons_zero, List.set_cons_succ]
      refine wpAnyH_done (by kernel_rfl) ?_ _
      refine NoPanic.normal ?_
      obtain ⟨c0, c1, c2, hb3, hz3⟩ := hHeld
      have hf := (HCB.out.cu.below hb3).f2
      go_wp2_with fail
      go_end0
      obtain ⟨hm, hg⟩ := moved2p (HCB.out.cu.below hb3) lim
      have hg2 := (grown_of_below hb3 (some g)).trans hg
      exact .inl ⟨rfl, p', w1, HP.out, HDN.out, HCB.out.rd hg2 hm q0 q1 (by rw [HP.out]; have := HRR.out; unfold inLim; omega), hg2⟩
    · have h0 : ¬ rest p' (inLim p lim n) = 0 := by unfold rest; rw [if_neg (by have := HL.out; omega)]; omega
      refine wp_region_held_drew (S := (fun W => W.cell? ⟨g, 0, none⟩ = some (.slice A l.length c) ∧ W.cell? ⟨g, 1, none⟩ = some (.int .i64 p') ∧ W.cell? ⟨g, 2, none⟩ = some (.int .i64 (inLim p lim n)) ∧ Below w1.heap.size w1 W ∧ w1.heap.size ≤ W.heap.size)) (by kernel_rfl) ?hSd1 (fun hHeld => ?god1)
      case hSd1 => first | exact hHeld | exact keepN hHeld (by assumption) | exact keepN S0 (Below.drew (Below.refl _ _))
      refine wpAnyH_take (i := 0) (oi := { dst := some 26, op := Go.Op.move (Go.Operand.tmp 0), type := 81, pos := "cursor.go:204", after := #[], guard := none }) (v := ?_) rfl (by kernel_rfl) (by kernel_rfl) (by kernel_rfl) (fun _ _ _ h => h) (Or.inl ⟨by rfl, ?hyd2⟩) (by assumption) ?restd2
      case hyd2 => (intro w hSw; (try dsimp only at hSw); go_simp; first | (with_reducible rfl) | (rw [if_neg (by omega)]) | skip)
      simp only [Act.put, List.setIfInBounds_toArray, List.set_cons_zero, List.set_cons_succ]
      refine wpAnyH_take (i := 3) (oi := { dst := some 29, op := Go.Op.move (Go.Operand.tmp 0), type := 81, pos := "cursor.go:204", after := #[], guard := none }) (v := ?_) rfl (by kernel_rfl) (by kernel_rfl) (by kernel_rfl) (fun _ _ _ h => h) (Or.inl ⟨by rfl, ?hyd3⟩) (by assumption) ?restd3
      case hyd3 => (intro w hSw; (try dsimp only at hSw); go_simp; first | (with_reducible rfl) | (rw [if_neg (by omega)]) | skip)
      simp only [Act.put, List.setIfInBounds_toArray, List.set_cons_zero, List.set_cons_succ]
      refine wpAnyH_take (i := 4) (oi := { dst := some 30, op := Go.Op.nilCheck (Go.Operand.tmp 29), type := 0, pos := "cursor.go:204", after := #[{ on := 3, ground := Go.Ground.data }], guard := none }) (v := ?_) rfl (by kernel_rfl) (by kernel_rfl) (by kernel_rfl) (fun _ _ _ h => h) (Or.inl ⟨by rfl, ?hyd4⟩) (by assumption) ?restd4
      case hyd4 => (intro w hSw; (try dsimp only at hSw); go_simp; first | (with_reducible rfl) | (rw [if_neg (by omega)]) | skip)
      simp only [Act.put, List.setIfInBounds_toArray, List.set_cons_zero, List.set_cons_succ]
      refine wpAnyH_take (i := 5) (oi := { dst := some 31, op := Go.Op.fieldAddr 136 (Go.Operand.tmp 30) 1, type := 0, pos := "cursor.go:204", after := #[{ on := 4, ground := Go.Ground.data }], guard := none }) (v := ?_) rfl (by kernel_rfl) (by kernel_rfl) (by kernel_rfl) (fun _ _ _ h => h) (Or.inl ⟨by rfl, ?hyd5⟩) (by assumption) ?restd5
      case hyd5 => (intro w hSw; (try dsimp only at hSw); go_simp; first | (with_reducible rfl) | (rw [if_neg (by omega)]) | skip)
      simp only [Act.put, List.setIfInBounds_toArray, List.set_cons_zero, List.set_cons_succ]
      refine wpAnyH_take (i := 6) (oi := { dst := some 32, op := Go.Op.load 3 (Go.Operand.tmp 31), type := 3, pos := "cursor.go:204", after := #[{ on := 5, ground := Go.Ground.data }], guard := none }) (v := ?_) rfl (by kernel_rfl) (by kernel_rfl) (by kernel_rfl) (fun _ _ _ h => h) (Or.inl ⟨by rfl, ?hyd6⟩) (by assumption) ?restd6
      case hyd6 => (intro w hSw; (try dsimp only at hSw); go_simp; first | (with_reducible rfl) | (rw [if_neg (by omega)]) | skip)
      simp only [Act.put, List.setIfInBounds_toArray, List.set_cons_zero, List.set_cons_succ]
      refine wpAnyH_ready (rs := [1]) (by kernel_rfl) (by simp) ?_
      refine AllReadyH.cons (o := { dst := some 27, op := Go.Op.call { callee := Go.Callee.value (Go.Operand.func 68), args := #[Go.Operand.tmp 26], argTypes := #[81] }, type := 3, pos := "cursor.go:204", after := #[{ on := 0, ground := Go.Ground.data }], guard := none }) rfl (fun K hK => ?_) AllReadyH.nil
      go_simp
      go_at_call 68; (with_reducible refine (HR3.out _ hHeld.2.2.2.1).mono ?_); rintro e w2 ⟨rfl, hb2⟩
      refine hK.out _ _ ?_ (fun hHeld => ?_)
      · (try dsimp only); first | exact hHeld | exact keepN hHeld (by assumption) | exact keepN S0 (Below.drew (Below.refl _ _))
      clear hK K
      try simp only [Act.put, List.setIfInBounds_toArray, List.set_cons_zero, List.set_cons_succ]
      refine wpAnyH_take (i := 2) (oi := { dst := some 28, op := Go.Op.binOp Go.BinOp.eql 3 (Go.Operand.tmp 27) (Go.Operand.const (Go.Value.int Go.IntKind.i64 0)) 3, type := 4, pos := "cursor.go:204", after := #[{ on := 1, ground := Go.Ground.data }], guard := none }) (v := ?_) rfl (by kernel_rfl) (by kernel_rfl) (by kernel_rfl) (fun _ _ _ h => h) (Or.inl ⟨by rfl, ?hyd7⟩) (by assumption) ?restd7
      case hyd7 => (intro w hSw; (try dsimp only at hSw); go_simp; first | (with_reducible rfl) | (rw [if_neg (by omega)]) | skip)
      simp only [Act.put, List.setIfInBounds_toArray, List.set_cons_zero, List.set_cons_succ]
      refine wpAnyH_ready (rs := [7]) (by kernel_rfl) (by simp) ?_
      refine AllReadyH.cons (o := { dst := some 33, op := Go.Op.call { callee := Go.Callee.value (Go.Operand.func 92), args := #[Go.Operand.tmp 28, Go.Operand.tmp 32], argTypes := #[4, 3] }, type := 0, pos := "cursor.go:204", after := #[{ on := 2, ground := Go.Ground.data }, { on := 6, ground := Go.Ground.data }, { on := 1, ground := Go.Ground.chain }], guard := none }) rfl (fun K hK => ?_) AllReadyH.nil
      go_simp
      rw [show (rest p' (inLim p lim n) == 0) = false from by simpa using h0]; go_at_call 92; (with_reducible refine (need_no p' _).mono ?_); rintro e w3 ⟨rfl, rfl⟩; exact ⟨rfl, .inr (.inl ⟨p', w1, he, HDN.out, rfl, grown_of_below hHeld.2.2.2.1 _⟩)⟩
  · exact ⟨rfl, .inr (.inr ⟨q, er, rfl, hst⟩)⟩
end Go.Proofs.YtiohiiekaofkbaaDoor
