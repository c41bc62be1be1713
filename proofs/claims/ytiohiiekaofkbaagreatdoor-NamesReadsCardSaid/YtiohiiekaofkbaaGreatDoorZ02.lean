/- Texts of this claim, as far as they are used here: C6, C9, D1, U0, U1, U2, D4, T0. -/
import Derived.Test.YtiohiiekaofkbaaGreatDoorZ01
import Derived.StillTailTactics
import Derived.Laws.BytesArg
import Derived.DataElems
import Derived.Test.YtiohiiekaofkbaaGreatDoorZ00
import Derived.Lib.SlBytesConst
import Derived.Lib.IndexBytes
/- Within. -/
namespace Go.Proofs.YtiohiiekaofkbaaGreatDoor
set_option linter.unusedVariables false
set_option linter.unusedSimpArgs false
open Go.RowKit
def inLim (p lim n : Int) : Int := p + min (max 0 n) (rest p lim)
theorem inLim_wrap {p lim n : Int} (p0 : 0 ≤ p) (p1 : p ≤ 1000000000) (h : 0 ≤ rest p lim ∧ rest p lim ≤ 1099511627776) : IntKind.i64.wrap (p + if rest p lim < if 0 < n then n else 0 then rest p lim else if 0 < n then n else 0) = inLim p lim n := by
  rw [IntKind.wrap_i64]; unfold inLim; omega
theorem moved2 {g : Nat} {sl : Value} {p lim : Int} {w : World} (h : Cu g sl p lim w) (a : Nat) (lim' : Int) :
    Cu g sl p lim' ((w.drewN a).setCell ⟨g, 2, none⟩ (.int .i64 lim')) ∧ Rd g w ((w.drewN a).setCell ⟨g, 2, none⟩ (.int .i64 lim')) := by
  obtain ⟨c0, c1, c2, f1, f2⟩ := h
  have d : ∀ i, i ≠ 2 → (w.setCell ⟨g, 2, none⟩ (.int .i64 lim')).cell? ⟨g, i, none⟩ = w.cell? ⟨g, i, none⟩ := by
    intro i hi; apply World.cell?_setCell_other; intro e; injection e with _ e _; exact hi e.symm
  refine ⟨⟨(d 0 (by decide)).trans c0, (d 1 (by decide)).trans c1, (by apply World.cell?_setCell_same; exact c2), ?_, ?_⟩, ?_⟩
  · exact (World.frozen?_setCell _ _ _ _).trans f1
  · exact (World.frozen?_setCell _ _ _ _).trans f2
  · exact (grown_of_below (below_drewN w a) _).trans (grown_setCell _ g 2 _)
theorem moved2p {g : Nat} {sl : Value} {p lim : Int} {w : World} (h : Cu g sl p lim w) (lim' : Int) :
    Cu g sl p lim' (w.setCell ⟨g, 2, none⟩ (.int .i64 lim')) ∧ Rd g w (w.setCell ⟨g, 2, none⟩ (.int .i64 lim')) := by
  obtain ⟨c0, c1, c2, f1, f2⟩ := h
  have d : ∀ i, i ≠ 2 → (w.setCell ⟨g, 2, none⟩ (.int .i64 lim')).cell? ⟨g, i, none⟩ = w.cell? ⟨g, i, none⟩ := by
    intro i hi; apply World.cell?_setCell_other; intro e; injection e with _ e _; exact hi e.symm
  refine ⟨⟨(d 0 (by decide)).trans c0, (d 1 (by decide)).trans c1, (by apply World.cell?_setCell_same; exact c2), ?_, ?_⟩, ?_⟩
  · exact (World.frozen?_setCell _ _ _ _).trans f1
  · exact (World.frozen?_setCell _ _ _ _).trans f2
  · exact grown_setCell _ g 2 _
set_option maxHeartbeats 4000000 in
theorem within_walk (g : Nat) (A : Option Addr) (c : Nat) (l : List Int) (p lim n : Int) (w : World) (k : Nat) (caps : Array Value) (Dn : Int → World → Prop) (St : Int → Int → World → Prop)
    (h : CB g A c l p lim w) (hp : lim < 0 ∨ p ≤ lim) (hn : -9223372036854775808 ≤ n) (hn2 : n ≤ 9223372036854775807) (hE : Enters k)
    (hd : ∀ W, Rd g w W → CB g A c l p (inLim p lim n) W → Calls Tryz.prog k caps W (fun e w' => (e = .returned (.tuple #[]) ∧ ∃ p', CB g A c l p' (inLim p lim n) w' ∧ Dn p' w') ∨ (∃ q er, Stops q er e ∧ St q er w'))) :
    Calls Tryz.prog 14 #[.pointer (some ⟨g, 0, none⟩), .int .i64 n, .func (.func k) #[] caps] w (fun e w'' => (e = .returned (.tuple #[]) ∧ ∃ p' w', p' = inLim p lim n ∧ Dn p' w' ∧ CB g A c l p' lim w'' ∧ Rd g w' w'') ∨ (∃ p' w', p' ≠ inLim p lim n ∧ Dn p' w' ∧ Stops p' 2 e ∧ Rd g w' w'') ∨ (∃ q er, Stops q er e ∧ St q er w'')) := by
  have HC := hid h
  have HD := hid hd
  have HE : ∀ (args : Array Value) (w : World), (callFunc k args).run Tryz.prog w = .ok (.enter k args) w := hE
  have p0 := h.p0
  have p1 := h.p1
  have hl := h.hl
  have l2 := h.l2
  have HRR := hid (show 0 ≤ rest p lim ∧ rest p lim ≤ 1099511627776 by unfold rest; split <;> omega)
  obtain ⟨c0, c1, c2, f1, f2⟩ := h.cu
  clear h hd hE
  go_enter Tryz.func14, Tryz.ntmps14
  go_upto_region 1 with (fail)
  have HR := hid (fun W (hb : Below w.heap.size w W) => rest_walk g (.slice A l.length c) p lim W (HC.out.cu.below hb) p0 (by omega) (by omega))
  refine wp_region_noPanic ?_
  refine wp_region_held_drew (S := (fun W => W.cell? ⟨g, 1, none⟩ = some (.int .i64 p))) (by kernel_rfl) ?hSa1 (fun hHeld => ?goa1)
  case hSa1 => exact c1
  refine tk 0 ⟨some 11, .move (.tmp 0), 73, "cursor.go:202", #[], none⟩ rfl ?_
  refine tk 1 ⟨some 12, .move (.tmp 0), 73, "cursor.go:202", #[], none⟩ rfl ?_
  refine tk 2 ⟨some 13, .nilCheck (.tmp 12), 0, "cursor.go:202", #[⟨1, .data⟩], none⟩ rfl ?_
  refine tk 3 ⟨some 14, .fieldAddr 156 (.tmp 13) 1, 0, "cursor.go:202", #[⟨2, .data⟩], none⟩ rfl ?_
  refine tk 4 ⟨some 15, .load 3 (.tmp 14), 3, "cursor.go:202", #[⟨3, .data⟩], none⟩ rfl ?_
  refine tk 5 ⟨some 16, .move (.tmp 1), 3, "cursor.go:202", #[], none⟩ rfl ?_
  refine tk 6 ⟨some 17, .call { callee := .builtin Go.Builtin.max, args := #[.const (.int .i64 0), .tmp 16], argTypes := #[3, 3] }, 3, "cursor.go:202", #[⟨5, .data⟩], none⟩ rfl ?_
  refine tk 7 ⟨some 18, .move (.tmp 0), 73, "cursor.go:202", #[], none⟩ rfl ?_
  refine wpAnyH_ready (rs := [8]) (by kernel_rfl) (by simp) ?_
  refine AllReadyH.cons (o := ⟨some 19, .call { callee := .value (.func 16), args := #[.tmp 18], argTypes := #[73] }, 3, "cursor.go:202", #[⟨7, .data⟩], none⟩) rfl (fun K hK => ?_) AllReadyH.nil
  go_simp
  go_at_call 16; (with_reducible refine (HR.out _ (Below.drew (Below.refl _ _))).mono ?_); rintro e w2 ⟨rfl, n1, rfl⟩
  refine hK.out _ _ ?_ (fun hHeld => ?_)
  · (try dsimp only); exact c1
  clear hK K
  try simp only [Act.put, List.setIfInBounds_toArray, List.set_cons_zero, List.set_cons_succ]
  refine tk 9 ⟨some 20, .call { callee := .builtin Go.Builtin.min, args := #[.tmp 17, .tmp 19], argTypes := #[3, 3] }, 3, "cursor.go:202", #[⟨6, .data⟩, ⟨8, .data⟩], none⟩ rfl ?_
  refine tk 10 ⟨some 21, .binOp .add 3 (.tmp 15) (.tmp 20) 3, 3, "cursor.go:202", #[⟨4, .data⟩, ⟨9, .data⟩], none⟩ rfl ?_
  refine tk 11 ⟨some 22, .nilCheck (.tmp 11), 0, "cursor.go:202", #[⟨0, .data⟩, ⟨0, .phase⟩, ⟨1, .phase⟩, ⟨2, .phase⟩, ⟨3, .phase⟩, ⟨4, .phase⟩, ⟨5, .phase⟩, ⟨6, .phase⟩, ⟨7, .phase⟩, ⟨8, .phase⟩, ⟨9, .phase⟩, ⟨10, .phase⟩], none⟩ rfl ?_
  refine tk 12 ⟨some 23, .fieldAddr 156 (.tmp 22) 2, 0, "cursor.go:202", #[⟨11, .data⟩, ⟨0, .phase⟩, ⟨1, .phase⟩, ⟨2, .phase⟩, ⟨3, .phase⟩, ⟨4, .phase⟩, ⟨5, .phase⟩, ⟨6, .phase⟩, ⟨7, .phase⟩, ⟨8, .phase⟩, ⟨9, .phase⟩, ⟨10, .phase⟩], none⟩ rfl ?_
  refine wpAnyH_ready (rs := [13]) (by kernel_rfl) (by simp) ?_
  refine AllReadyH.cons (o := ⟨none, .store 3 (.tmp 23) (.tmp 21), 0, "cursor.go:202", #[⟨12, .data⟩, ⟨10, .data⟩, ⟨8, .chain⟩, ⟨0, .phase⟩, ⟨1, .phase⟩, ⟨2, .phase⟩, ⟨3, .phase⟩, ⟨4, .phase⟩, ⟨5, .phase⟩, ⟨6, .phase⟩, ⟨7, .phase⟩, ⟨8, .phase⟩, ⟨9, .phase⟩, ⟨10, .phase⟩], none⟩) rfl (fun K hK => ?_) AllReadyH.nil
  go_simp
  refine hK.out _ _ ?_ (fun hHeld => ?_)
  · (try dsimp only); exact (World.cell?_setCell_other _ _ _ _ (by intro e; injection e with _ e _; simp at e)).trans c1
  clear hK K
  try simp only [Act.put, List.setIfInBounds_toArray, List.set_cons_zero, List.set_cons_succ]
  refine wpAnyH_done (by kernel_rfl) ?_ _
  refine NoPanic.normal ?_
  rw [inLim_wrap p0 (by omega) HRR.out]
  generalize (if rest p lim < if 0 < n then n else 0 then rest p lim else if 0 < n then n else 0) = t1
  generalize (if 0 < n then n else 0) = t2
  obtain ⟨hm, hg⟩ := moved2 HC.out.cu (1 + n1) (inLim p lim n)
  have HB := hid (HC.out.rd hg hm p0 p1 (by have := HRR.out; unfold inLim; omega))
  have HG := hid hg
  clear hm hg c0 c1 c2 f1 f2 hHeld
  go_upto_region 3 with (first | ((with_reducible refine (HD.out _ HG.out HB.out).mono ?_); rintro e w1 (⟨rfl, p', hcb, hdn⟩ | ⟨q, er, rfl, hst⟩)))
  · have HCB := hid hcb
    have HDN := hid hdn
    have HR3 := hid (rest_b hcb)
    have q0 := hcb.p0
    have q1 := hcb.p1
    have HL := hid (show 0 ≤ inLim p lim n by have := HRR.out; unfold inLim; omega)
    have S0 : w1.cell? ⟨g, 0, none⟩ = some (.slice A l.length c) ∧ w1.cell? ⟨g, 1, none⟩ = some (.int .i64 p') ∧ w1.cell? ⟨g, 2, none⟩ = some (.int .i64 (inLim p lim n)) ∧ Below w1.heap.size w1 w1 ∧ w1.heap.size ≤ w1.heap.size := ⟨hcb.cu.c0, hcb.cu.c1, hcb.cu.c2, Below.refl _ _, Nat.le_refl _⟩
    clear hcb hdn
    by_cases he : p' = inLim p lim n
    · have h0 : rest p' (inLim p lim n) = 0 := by unfold rest; rw [if_neg (by have := HL.out; omega)]; omega
      have HP := hid he
      clear he
      refine wp_region_noPanic ?_
      refine wp_region_held_drew (S := (fun W => W.cell? ⟨g, 0, none⟩ = some (.slice A l.length c) ∧ W.cell? ⟨g, 1, none⟩ = some (.int .i64 p') ∧ W.cell? ⟨g, 2, none⟩ = some (.int .i64 (inLim p lim n)) ∧ Below w1.heap.size w1 W ∧ w1.heap.size ≤ W.heap.size)) (by kernel_rfl) ?hSb1 (fun hHeld => ?gob1)
      case hSb1 => first | exact hHeld | exact keepN hHeld (by assumption) | exact keepN S0 (Below.drew (Below.refl _ _))
      refine tk 0 ⟨some 26, .move (.tmp 0), 73, "cursor.go:204", #[], none⟩ rfl ?_
      refine tk 3 ⟨some 29, .move (.tmp 0), 73, "cursor.go:204", #[], none⟩ rfl ?_
      refine tk 4 ⟨some 30, .nilCheck (.tmp 29), 0, "cursor.go:204", #[⟨3, .data⟩], none⟩ rfl ?_
      refine tk 5 ⟨some 31, .fieldAddr 156 (.tmp 30) 1, 0, "cursor.go:204", #[⟨4, .data⟩], none⟩ rfl ?_
      refine tk 6 ⟨some 32, .load 3 (.tmp 31), 3, "cursor.go:204", #[⟨5, .data⟩], none⟩ rfl ?_
      refine wpAnyH_ready (rs := [1]) (by kernel_rfl) (by simp) ?_
      refine AllReadyH.cons (o := ⟨some 27, .call { callee := .value (.func 16), args := #[.tmp 26], argTypes := #[73] }, 3, "cursor.go:204", #[⟨0, .data⟩], none⟩) rfl (fun K hK => ?_) AllReadyH.nil
      go_simp
      go_at_call 16; (with_reducible refine (HR3.out _ hHeld.2.2.2.1).mono ?_); rintro e w2 ⟨rfl, hb2⟩
      refine hK.out _ _ ?_ (fun hHeld => ?_)
      · (try dsimp only); first | exact hHeld | exact keepN hHeld (by assumption) | exact keepN S0 (Below.drew (Below.refl _ _))
      clear hK K
      try simp only [Act.put, List.setIfInBounds_toArray, List.set_cons_zero, List.set_cons_succ]
      refine tk 2 ⟨some 28, .binOp .eql 3 (.tmp 27) (.const (.int .i64 0)) 3, 4, "cursor.go:204", #[⟨1, .data⟩], none⟩ rfl ?_
      refine wpAnyH_ready (rs := [7]) (by kernel_rfl) (by simp) ?_
      refine AllReadyH.cons (o := ⟨some 33, .call { callee := .value (.func 38), args := #[.tmp 28, .tmp 32], argTypes := #[4, 3] }, 0, "cursor.go:204", #[⟨2, .data⟩, ⟨6, .data⟩, ⟨1, .chain⟩], none⟩) rfl (fun K hK => ?_) AllReadyH.nil
      go_simp
      go_at_call 38; (with_reducible refine (need_yes p' _).mono ?_); rintro e w3 ⟨rfl, rfl⟩
      refine hK.out _ _ ?_ (fun hHeld => ?_)
      · (try dsimp only); first | exact hHeld | exact keepN hHeld (by assumption) | exact keepN S0 (Below.drew (Below.refl _ _))
      clear hK K
      try simp only [Act.put, List.setIfInBounds_toArray, List.set_cons_zero, List.set_cons_succ]
      refine wpAnyH_done (by kernel_rfl) ?_ _
      refine NoPanic.normal ?_
      obtain ⟨c0, c1, c2, hb3, hz3⟩ := hHeld
      have hf := (HCB.out.cu.below hb3).f2
      go_wp2_with fail
      go_end0
      obtain ⟨hm, hg⟩ := moved2p (HCB.out.cu.below hb3) lim
      have hg2 := (grown_of_below hb3 (some g)).trans hg
      exact .inl ⟨rfl, p', w1, HP.out, HDN.out, HCB.out.rd hg2 hm q0 q1 (by rw [HP.out]; have := HRR.out; unfold inLim; omega), hg2⟩
    · have h0 : ¬ rest p' (inLim p lim n) = 0 := by unfold rest; rw [if_neg (by have := HL.out; omega)]; omega
      refine wp_region_held_drew (S := (fun W => W.cell? ⟨g, 0, none⟩ = some (.slice A l.length c) ∧ W.cell? ⟨g, 1, none⟩ = some (.int .i64 p') ∧ W.cell? ⟨g, 2, none⟩ = some (.int .i64 (inLim p lim n)) ∧ Below w1.heap.size w1 W ∧ w1.heap.size ≤ W.heap.size)) (by kernel_rfl) ?hSd1 (fun hHeld => ?god1)
      case hSd1 => first | exact hHeld | exact keepN hHeld (by assumption) | exact keepN S0 (Below.drew (Below.refl _ _))
      refine tk 0 ⟨some 26, .move (.tmp 0), 73, "cursor.go:204", #[], none⟩ rfl ?_
      refine tk 3 ⟨some 29, .move (.tmp 0), 73, "cursor.go:204", #[], none⟩ rfl ?_
      refine tk 4 ⟨some 30, .nilCheck (.tmp 29), 0, "cursor.go:204", #[⟨3, .data⟩], none⟩ rfl ?_
      refine tk 5 ⟨some 31, .fieldAddr 156 (.tmp 30) 1, 0, "cursor.go:204", #[⟨4, .data⟩], none⟩ rfl ?_
      refine tk 6 ⟨some 32, .load 3 (.tmp 31), 3, "cursor.go:204", #[⟨5, .data⟩], none⟩ rfl ?_
      refine wpAnyH_ready (rs := [1]) (by kernel_rfl) (by simp) ?_
      refine AllReadyH.cons (o := ⟨some 27, .call { callee := .value (.func 16), args := #[.tmp 26], argTypes := #[73] }, 3, "cursor.go:204", #[⟨0, .data⟩], none⟩) rfl (fun K hK => ?_) AllReadyH.nil
      go_simp
      go_at_call 16; (with_reducible refine (HR3.out _ hHeld.2.2.2.1).mono ?_); rintro e w2 ⟨rfl, hb2⟩
      refine hK.out _ _ ?_ (fun hHeld => ?_)
      · (try dsimp only); first | exact hHeld | exact keepN hHeld (by assumption) | exact keepN S0 (Below.drew (Below.refl _ _))
      clear hK K
      try simp only [Act.put, List.setIfInBounds_toArray, List.set_cons_zero, List.set_cons_succ]
      refine tk 2 ⟨some 28, .binOp .eql 3 (.tmp 27) (.const (.int .i64 0)) 3, 4, "cursor.go:204", #[⟨1, .data⟩], none⟩ rfl ?_
      refine wpAnyH_ready (rs := [7]) (by kernel_rfl) (by simp) ?_
      refine AllReadyH.cons (o := ⟨some 33, .call { callee := .value (.func 38), args := #[.tmp 28, .tmp 32], argTypes := #[4, 3] }, 0, "cursor.go:204", #[⟨2, .data⟩, ⟨6, .data⟩, ⟨1, .chain⟩], none⟩) rfl (fun K hK => ?_) AllReadyH.nil
      go_simp
      rw [show (rest p' (inLim p lim n) == 0) = false from by simpa using h0]; go_at_call 38; (with_reducible refine (need_no p' _).mono ?_); rintro e w3 ⟨rfl, rfl⟩; exact ⟨rfl, .inr (.inl ⟨p', w1, he, HDN.out, rfl, grown_of_below hHeld.2.2.2.1 _⟩)⟩
  · exact ⟨rfl, .inr (.inr ⟨q, er, rfl, hst⟩)⟩
end Go.Proofs.YtiohiiekaofkbaaGreatDoor
/- The readers of wtype: a byte that may be, a value type. -/
namespace Go.Proofs.YtiohiiekaofkbaaGreatDoor
set_option linter.unusedVariables false
set_option linter.unusedSimpArgs false
open Go.RowKit
def byteM (m : Int → Int → Bool) (l : List Int) (p lim : Int) : Res := match nextR l p lim with | .error s => .error s | .ok x => if m x (rest (p + 1) lim) then .ok (.int .u8 x, p + 1) else .error (p, 2)
theorem byte_walk2 (g : Nat) (A : Option Addr) (c : Nat) (l : List Int) (p lim : Int) (w : World) (k : Nat) (caps : Array Value) (m : Int → Int → Bool) (hE : Enters k) (h : CB g A c l p lim w)
    (hm : ∀ x W, 0 ≤ x → x < 256 → Rd g w W → CB g A c l (p + 1) lim W → Calls Tryz.prog k (#[.int .u8 x, .int .i64 (rest (p + 1) lim)] ++ caps) W (fun e w' => e = .returned (.bool (m x (rest (p + 1) lim))) ∧ Below W.heap.size W w')) :
    Calls Tryz.prog 39 #[.pointer (some ⟨g, 0, none⟩), .func (.func k) #[] caps] w (Post g A c l lim w (byteM m l p lim)) := by
  rcases hx : nextR l p lim with s | x
  · have e : byteM m l p lim = .error s := by rw [byteM, hx]
    rw [e]
    exact byte_err g A c l p lim w k caps h s hx
  · obtain ⟨b0, b1⟩ := h.b8 x (next_mem hx).1
    rcases hb : m x (rest (p + 1) lim) with _ | _
    · have e : byteM m l p lim = .error (p, 2) := by rw [byteM, hx]; simp [hb]
      rw [e]
      exact byte_not g A c l p lim w k caps hE h x hx (fun w1 hw1 hc1 W hz hW => by
        have := hm x W b0 b1 (hw1.trans ⟨hW.os, hW.tape, hW.output, hW.size, fun i hi _ => hW.block i hi⟩) (hc1.below hW); rwa [hb] at this)
    · have e : byteM m l p lim = .ok (.int .u8 x, p + 1) := by rw [byteM, hx]; simp [hb]
      rw [e]
      exact byte_yes g A c l p lim w k caps hE h x hx (fun w1 hw1 hc1 W hz hW => by
        have := hm x W b0 b1 (hw1.trans ⟨hW.os, hW.tape, hW.output, hW.size, fun i hi _ => hW.block i hi⟩) (hc1.below hW); rwa [hb] at this)
end Go.Proofs.YtiohiiekaofkbaaGreatDoor
/- The cursor's next bytes. -/
namespace Go.Proofs.YtiohiiekaofkbaaGreatDoor
set_option linter.unusedVariables false
set_option linter.unusedSimpArgs false
open Go.RowKit
theorem conv_cells {l : List Int} {ad : Addr} {w : World} (h : ∀ (j : Nat) (x : Int), l[j]? = some x → w.cell? (ad.add j) = some (.int .u8 x)) (cap : Nat) :
    (convert 72 9 (.slice (some ad) l.length cap)).run Tryz.prog w = .ok (.string (strOfNums l)) w := by
  have hl : (loadCells ad l.length).run Tryz.prog w = .ok (l.map (Value.int .u8)).toArray w := by
    have := run_loadCells_list (P := Tryz.prog) w ad (l.map (Value.int .u8)) (fun j v hj => by
      rw [List.getElem?_map] at hj
      rcases hx : l[j]? with _ | x
      · rw [hx] at hj; cases hj
      · rw [hx] at hj; cases hj; exact h j x hx)
    simpa using this
  rw [run_convert_bytes_string w 72 9 5 _ l.length cap Tryz.underlying72 Tryz.underlying5 Tryz.underlying9, run_bytesToString w _ l.length cap l hl, foldl_push_bytes]
  simp [strOfNums, ByteArray.empty, ByteArray.emptyWithCapacity]
  rfl
theorem conv_sub {l : List Int} {ad : Addr} {w : World} (h : ∀ (j : Nat) (x : Int), l[j]? = some x → w.cell? (ad.add j) = some (.int .u8 x)) (i n cap : Nat) (hn : i + n ≤ l.length) :
    (convert 72 9 (.slice (some (ad.add i)) n cap)).run Tryz.prog w = .ok (.string (strOfNums ((l.drop i).take n))) w := by
  have hlen : ((l.drop i).take n).length = n := by simp; omega
  have := conv_cells (l := (l.drop i).take n) (ad := ad.add i) (w := w) (fun j x hj => by
    have hjn : j < n := by
      have := (List.getElem?_eq_some_iff.1 hj).1
      omega
    rw [List.getElem?_take, if_pos hjn, List.getElem?_drop] at hj
    rw [Addr.add_add]
    exact h _ _ hj) cap
  rwa [hlen] at this
def sRes (r : Except (Int × Int) (List Int × Int)) : Res := match r with | .ok (s, p') => .ok (.string (strOfNums s), p') | .error e => .error e
end Go.Proofs.YtiohiiekaofkbaaGreatDoor
/- Texts, byte by byte: what a first byte tells; the sign with which bytes begin (the package's own way). -/
namespace Go.Proofs.YtiohiiekaofkbaaGreatDoor
set_option linter.unusedVariables false
set_option linter.unusedSimpArgs false
open Go.RowKit
def leadT (b : Int) : Option (Int × Int × Int) :=
  if b < 128 then some (0, 0, 0) else if 194 ≤ b ∧ b ≤ 223 then some (1, 128, 191) else if b = 224 then some (2, 160, 191) else if b = 237 then some (2, 128, 159)
  else if 225 ≤ b ∧ b ≤ 239 then some (2, 128, 191) else if b = 240 then some (3, 144, 191) else if 241 ≤ b ∧ b ≤ 243 then some (3, 128, 191) else if b = 244 then some (3, 128, 143) else none
def leadR (b : Int) : Int × Int × Int × Bool := match leadT b with | some (m, lo, hi) => (m, lo, hi, true) | none => (0, 0, 0, false)
theorem lead_walk (b : Int) (w : World) (h0 : 0 ≤ b) (h1 : b < 256) :
    Calls Tryz.prog 97 #[.int .u8 b] w (fun e w' => e = .returned (.tuple #[.int .i64 (leadR b).1, .int .u8 (leadR b).2.1, .int .u8 (leadR b).2.2.1, .bool (leadR b).2.2.2]) ∧ w = w') := by
  have hc : (b < 128) ∨ (194 ≤ b ∧ b ≤ 223) ∨ (b = 224) ∨ (b = 237) ∨ ((225 ≤ b ∧ b ≤ 239) ∧ ¬ b = 237) ∨ (b = 240) ∨ (241 ≤ b ∧ b ≤ 243) ∨ (b = 244) ∨ ((128 ≤ b ∧ b < 194) ∨ 244 < b) := by omega
  rcases hc with h | h | h | h | h | h | h | h | h
  · have hv : leadR b = (0, 0, 0, true) := by
      unfold leadR leadT
      rw [if_pos (by omega)]
    rw [hv]
    have q1 : decide (b < 128) = true := by simpa using h
    have e224 : (b == 224) = false := by simp; omega
    have e237 : (b == 237) = false := by simp; omega
    have e240 : (b == 240) = false := by simp; omega
    have e244 : (b == 244) = false := by simp; omega
    clear hv
    go_enter Tryz.func97, Tryz.ntmps97
    go_wp2
    all_goals
      first
        | (refine bodyPost_ret (v := .tuple #[.int .i64 0, .int .u8 0, .int .u8 0, .bool true]) ?_ rfl ⟨rfl, rfl⟩; simp [results, Tryz.results97, go_sem]; done)
        | (exfalso; simp_all; omega)
        | trace_state
  · have hv : leadR b = (1, 128, 191, true) := by
      unfold leadR leadT
      rw [if_neg (by omega), if_pos (by omega)]
    rw [hv]
    have q1 : decide (b < 128) = false := by simp; omega
    have e224 : (b == 224) = false := by simp; omega
    have e237 : (b == 237) = false := by simp; omega
    have e240 : (b == 240) = false := by simp; omega
    have e244 : (b == 244) = false := by simp; omega
    clear hv
    go_enter Tryz.func97, Tryz.ntmps97
    go_wp2
    all_goals
      first
        | (refine bodyPost_ret (v := .tuple #[.int .i64 1, .int .u8 128, .int .u8 191, .bool true]) ?_ rfl ⟨rfl, rfl⟩; simp [results, Tryz.results97, go_sem]; done)
        | (exfalso; simp_all; omega)
        | trace_state
  · have hv : leadR b = (2, 160, 191, true) := by
      unfold leadR leadT
      rw [if_neg (by omega), if_neg (by omega), if_pos (by omega)]
    rw [hv]
    have q1 : decide (b < 128) = false := by simp; omega
    have e224 : (b == 224) = true := by simp; omega
    have e237 : (b == 237) = false := by simp; omega
    have e240 : (b == 240) = false := by simp; omega
    have e244 : (b == 244) = false := by simp; omega
    clear hv
    go_enter Tryz.func97, Tryz.ntmps97
    go_wp2
    all_goals
      first
        | (refine bodyPost_ret (v := .tuple #[.int .i64 2, .int .u8 160, .int .u8 191, .bool true]) ?_ rfl ⟨rfl, rfl⟩; simp [results, Tryz.results97, go_sem]; done)
        | (exfalso; simp_all; omega)
        | trace_state
  · have hv : leadR b = (2, 128, 159, true) := by
      unfold leadR leadT
      rw [if_neg (by omega), if_neg (by omega), if_neg (by omega), if_pos (by omega)]
    rw [hv]
    have q1 : decide (b < 128) = false := by simp; omega
    have e224 : (b == 224) = false := by simp; omega
    have e237 : (b == 237) = true := by simp; omega
    have e240 : (b == 240) = false := by simp; omega
    have e244 : (b == 244) = false := by simp; omega
    clear hv
    go_enter Tryz.func97, Tryz.ntmps97
    go_wp2
    all_goals
      first
        | (refine bodyPost_ret (v := .tuple #[.int .i64 2, .int .u8 128, .int .u8 159, .bool true]) ?_ rfl ⟨rfl, rfl⟩; simp [results, Tryz.results97, go_sem]; done)
        | (exfalso; simp_all; omega)
        | trace_state
  · have hv : leadR b = (2, 128, 191, true) := by
      unfold leadR leadT
      rw [if_neg (by omega), if_neg (by omega), if_neg (by omega), if_neg (by omega), if_pos (by omega)]
    rw [hv]
    have q1 : decide (b < 128) = false := by simp; omega
    have e224 : (b == 224) = false := by simp; omega
    have e237 : (b == 237) = false := by simp; omega
    have e240 : (b == 240) = false := by simp; omega
    have e244 : (b == 244) = false := by simp; omega
    clear hv
    go_enter Tryz.func97, Tryz.ntmps97
    go_wp2
    all_goals
      first
        | (refine bodyPost_ret (v := .tuple #[.int .i64 2, .int .u8 128, .int .u8 191, .bool true]) ?_ rfl ⟨rfl, rfl⟩; simp [results, Tryz.results97, go_sem]; done)
        | (exfalso; simp_all; omega)
        | trace_state
  · have hv : leadR b = (3, 144, 191, true) := by
      unfold leadR leadT
      rw [if_neg (by omega), if_neg (by omega), if_neg (by omega), if_neg (by omega), if_neg (by omega), if_pos (by omega)]
    rw [hv]
    have q1 : decide (b < 128) = false := by simp; omega
    have e224 : (b == 224) = false := by simp; omega
    have e237 : (b == 237) = false := by simp; omega
    have e240 : (b == 240) = true := by simp; omega
    have e244 : (b == 244) = false := by simp; omega
    clear hv
    go_enter Tryz.func97, Tryz.ntmps97
    go_wp2
    all_goals
      first
        | (refine bodyPost_ret (v := .tuple #[.int .i64 3, .int .u8 144, .int .u8 191, .bool true]) ?_ rfl ⟨rfl, rfl⟩; simp [results, Tryz.results97, go_sem]; done)
        | (exfalso; simp_all; omega)
        | trace_state
  · have hv : leadR b = (3, 128, 191, true) := by
      unfold leadR leadT
      rw [if_neg (by omega), if_neg (by omega), if_neg (by omega), if_neg (by omega), if_neg (by omega), if_neg (by omega), if_pos (by omega)]
    rw [hv]
    have q1 : decide (b < 128) = false := by simp; omega
    have e224 : (b == 224) = false := by simp; omega
    have e237 : (b == 237) = false := by simp; omega
    have e240 : (b == 240) = false := by simp; omega
    have e244 : (b == 244) = false := by simp; omega
    clear hv
    go_enter Tryz.func97, Tryz.ntmps97
    go_wp2
    all_goals
      first
        | (refine bodyPost_ret (v := .tuple #[.int .i64 3, .int .u8 128, .int .u8 191, .bool true]) ?_ rfl ⟨rfl, rfl⟩; simp [results, Tryz.results97, go_sem]; done)
        | (exfalso; simp_all; omega)
        | trace_state
  · have hv : leadR b = (3, 128, 143, true) := by
      unfold leadR leadT
      rw [if_neg (by omega), if_neg (by omega), if_neg (by omega), if_neg (by omega), if_neg (by omega), if_neg (by omega), if_neg (by omega), if_pos (by omega)]
    rw [hv]
    have q1 : decide (b < 128) = false := by simp; omega
    have e224 : (b == 224) = false := by simp; omega
    have e237 : (b == 237) = false := by simp; omega
    have e240 : (b == 240) = false := by simp; omega
    have e244 : (b == 244) = true := by simp; omega
    clear hv
    go_enter Tryz.func97, Tryz.ntmps97
    go_wp2
    all_goals
      first
        | (refine bodyPost_ret (v := .tuple #[.int .i64 3, .int .u8 128, .int .u8 143, .bool true]) ?_ rfl ⟨rfl, rfl⟩; simp [results, Tryz.results97, go_sem]; done)
        | (exfalso; simp_all; omega)
        | trace_state
  · have hv : leadR b = (0, 0, 0, false) := by
      unfold leadR leadT
      rw [if_neg (by omega), if_neg (by omega), if_neg (by omega), if_neg (by omega), if_neg (by omega), if_neg (by omega), if_neg (by omega), if_neg (by omega)]
    rw [hv]
    have q1 : decide (b < 128) = false := by simp; omega
    have e224 : (b == 224) = false := by simp; omega
    have e237 : (b == 237) = false := by simp; omega
    have e240 : (b == 240) = false := by simp; omega
    have e244 : (b == 244) = false := by simp; omega
    clear hv
    go_enter Tryz.func97, Tryz.ntmps97
    go_wp2
    all_goals
      first
        | (refine bodyPost_ret (v := .tuple #[.int .i64 0, .int .u8 0, .int .u8 0, .bool false]) ?_ rfl ⟨rfl, rfl⟩; simp [results, Tryz.results97, go_sem]; done)
        | (exfalso; simp_all; omega)
        | trace_state
theorem lead_cases (b : Int) : ((b < 128) ∧ leadR b = (0, 0, 0, true)) ∨ ((194 ≤ b ∧ b ≤ 223) ∧ leadR b = (1, 128, 191, true)) ∨ ((b = 224) ∧ leadR b = (2, 160, 191, true)) ∨ ((b = 237) ∧ leadR b = (2, 128, 159, true)) ∨ (((225 ≤ b ∧ b ≤ 239) ∧ ¬ b = 237) ∧ leadR b = (2, 128, 191, true)) ∨ ((b = 240) ∧ leadR b = (3, 144, 191, true)) ∨ ((241 ≤ b ∧ b ≤ 243) ∧ leadR b = (3, 128, 191, true)) ∨ ((b = 244) ∧ leadR b = (3, 128, 143, true)) ∨ (((128 ≤ b ∧ b < 194) ∨ 244 < b) ∧ leadR b = (0, 0, 0, false)) := by
  have hc : (b < 128) ∨ (194 ≤ b ∧ b ≤ 223) ∨ (b = 224) ∨ (b = 237) ∨ ((225 ≤ b ∧ b ≤ 239) ∧ ¬ b = 237) ∨ (b = 240) ∨ (241 ≤ b ∧ b ≤ 243) ∨ (b = 244) ∨ ((128 ≤ b ∧ b < 194) ∨ 244 < b) := by omega
  rcases hc with h | h | h | h | h | h | h | h | h
  · exact .inl ⟨h, by unfold leadR leadT; rw [if_pos (by omega)]⟩
  · exact .inr (.inl ⟨h, by unfold leadR leadT; rw [if_neg (by omega), if_pos (by omega)]⟩)
  · exact .inr (.inr (.inl ⟨h, by unfold leadR leadT; rw [if_neg (by omega), if_neg (by omega), if_pos (by omega)]⟩))
  · exact .inr (.inr (.inr (.inl ⟨h, by unfold leadR leadT; rw [if_neg (by omega), if_neg (by omega), if_neg (by omega), if_pos (by omega)]⟩)))
  · exact .inr (.inr (.inr (.inr (.inl ⟨h, by unfold leadR leadT; rw [if_neg (by omega), if_neg (by omega), if_neg (by omega), if_neg (by omega), if_pos (by omega)]⟩))))
  · exact .inr (.inr (.inr (.inr (.inr (.inl ⟨h, by unfold leadR leadT; rw [if_neg (by omega), if_neg (by omega), if_neg (by omega), if_neg (by omega), if_neg (by omega), if_pos (by omega)]⟩)))))
  · exact .inr (.inr (.inr (.inr (.inr (.inr (.inl ⟨h, by unfold leadR leadT; rw [if_neg (by omega), if_neg (by omega), if_neg (by omega), if_neg (by omega), if_neg (by omega), if_neg (by omega), if_pos (by omega)]⟩))))))
  · exact .inr (.inr (.inr (.inr (.inr (.inr (.inr (.inl ⟨h, by unfold leadR leadT; rw [if_neg (by omega), if_neg (by omega), if_neg (by omega), if_neg (by omega), if_neg (by omega), if_neg (by omega), if_neg (by omega), if_pos (by omega)]⟩)))))))
  · exact .inr (.inr (.inr (.inr (.inr (.inr (.inr (.inr (⟨h, by unfold leadR leadT; rw [if_neg (by omega), if_neg (by omega), if_neg (by omega), if_neg (by omega), if_neg (by omega), if_neg (by omega), if_neg (by omega), if_neg (by omega)]⟩))))))))
end Go.Proofs.YtiohiiekaofkbaaGreatDoor
/- The sign with which bytes begin; how many bytes there must be more (the package's own way). -/
namespace Go.Proofs.YtiohiiekaofkbaaGreatDoor
set_option linter.unusedVariables false
set_option linter.unusedSimpArgs false
open Go.RowKit
def ns (s : ByteArray) : List Int := s.data.toList.map (fun x => (x.toNat : Int))
theorem ns_len (s : ByteArray) : (ns s).length = s.size := by simp [ns]
theorem ns_get (s : ByteArray) (i : Nat) (h : i < s.size) : (ns s)[i]? = some (s[i].toNat : Int) := by
  simp only [ns, List.getElem?_map]
  rw [List.getElem?_eq_getElem (by simpa using h)]
  rfl
theorem ns_byte (s : ByteArray) : ∀ x ∈ ns s, 0 ≤ x ∧ x < 256 := by
  intro x hx
  simp only [ns, List.mem_map] at hx
  obtain ⟨y, _, rfl⟩ := hx
  have := y.toNat_lt
  omega
theorem ns_drop (s : ByteArray) (i : Nat) (h : i < s.size) : (ns s).drop i = (s[i].toNat : Int) :: (ns s).drop (i + 1) := by
  have hg := ns_get s i h
  have hl : i < (ns s).length := by rw [ns_len]; exact h
  rw [List.drop_eq_getElem_cons hl]
  rw [List.getElem?_eq_getElem hl] at hg
  rw [Option.some.inj hg]
def sgnG (m lo hi : Int) : Int → List Int → Int × Int × Bool
  | n, [] => (n, m + 1 - n, true)
  | n, x :: t => if m < n then (n, m + 1 - n, true) else if n = 1 ∧ (x < lo ∨ hi < x) ∨ ¬ (128 ≤ x ∧ x < 192) then (0, 0, false) else sgnG m lo hi (n + 1) t
def sgnR : List Int → Int × Int × Bool
  | [] => (0, 0, false)
  | b :: t => if (leadR b).2.2.2 then sgnG (leadR b).1 (leadR b).2.1 (leadR b).2.2.1 1 t else (0, 0, false)
theorem and192 (x : Int) (h0 : 0 ≤ x) (h : x < 256) : bits .and .u8 x 192 = x / 64 * 64 := by
  obtain ⟨n, rfl⟩ : ∃ n : Nat, x = n := ⟨x.toNat, by omega⟩
  have hn : n < 256 := by omega
  have key : ∀ m : Fin 256, bits .and .u8 ((m.val : Nat) : Int) 192 = ((m.val : Nat) : Int) / 64 * 64 := by decide +kernel
  exact key ⟨n, hn⟩
theorem leadR_le (b : Int) : 0 ≤ (leadR b).1 ∧ (leadR b).1 ≤ 3 ∧ 0 ≤ (leadR b).2.1 ∧ (leadR b).2.1 ≤ 255 ∧ 0 ≤ (leadR b).2.2.1 ∧ (leadR b).2.2.1 ≤ 255 := by
  rcases lead_cases b with ⟨_, h⟩ | ⟨_, h⟩ | ⟨_, h⟩ | ⟨_, h⟩ | ⟨_, h⟩ | ⟨_, h⟩ | ⟨_, h⟩ | ⟨_, h⟩ | ⟨_, h⟩ <;> rw [h] <;> decide
set_option maxRecDepth 100000 in
set_option maxHeartbeats 4000000 in
theorem sign_walk (s : ByteArray) (w : World) (hs : s.size ≤ 140737488351232) (hp : 0 < s.size) :
    Calls Tryz.prog 86 #[.string s] w (fun e w' => e = .returned (.tuple #[.int .i64 (sgnR (ns s)).1, .int .i64 (sgnR (ns s)).2.1, .bool (sgnR (ns s)).2.2]) ∧ w = w') := by
  have hb0 : (0 : Int) ≤ (s[0].toNat : Int) := by omega
  have hb1 : ((s[0].toNat : Nat) : Int) < 256 := by have := s[0].toNat_lt; omega
  have hR : sgnR (ns s) = if (leadR (s[0].toNat : Int)).2.2.2 then sgnG (leadR (s[0].toNat : Int)).1 (leadR (s[0].toNat : Int)).2.1 (leadR (s[0].toNat : Int)).2.2.1 1 ((ns s).drop 1) else (0, 0, false) := by
    have := ns_drop s 0 hp
    rw [List.drop_zero] at this
    rw [this]
    simp [sgnR]
  have hl := lead_walk (s[0].toNat : Int)
  have hle := leadR_le (s[0].toNat : Int)
  rcases hx : leadR (s[0].toNat : Int) with ⟨m, lo, hi, is⟩
  rw [hx] at hR hl hle
  simp only at hR hl hle
  obtain ⟨m0, m1, lo0, lo1, hi0, hi1⟩ := hle
  have HL := hid hl
  have HR := hid hR
  clear hl hR hx
  cases is with
  | false =>
    go_enter Tryz.func86, Tryz.ntmps86
    go_wp2
    go_step3
    go_wp2_with (first | (go_at_call 97; ((with_reducible refine (HL.out _ hb0 hb1).mono ?_); rintro e w' ⟨rfl, rfl⟩)))
    try rw [Exit.noGoto_ret]
    refine bodyPost_ret (v := .tuple #[.int .i64 0, .int .i64 0, .bool false]) ?_ rfl ⟨by rw [HR.out]; rfl, rfl⟩
    simp [results, Tryz.results86, go_sem]
  | true =>
    go_enter Tryz.func86, Tryz.ntmps86
    go_wp2
    go_step3
    go_wp2_with (first | (go_at_call 97; ((with_reducible refine (HL.out _ hb0 hb1).mono ?_); rintro e w' ⟨rfl, rfl⟩)))
    go_step3
    go_wp2
    go_loopw [8] (fun v8 wr => ∃ k : Nat, 1 ≤ k ∧ (k : Int) ≤ m + 1 ∧ v8 = .int .i64 k ∧ k ≤ s.size ∧ Hid (sgnG m lo hi k ((ns s).drop k) = sgnR (ns s)) ∧ wr = w) (fun v8 _ => (m + 1 - intOf v8).toNat)
    case atStart => exact ⟨1, by omega, by omega, by go_num, hp, hid (by rw [HR.out]; rfl), rfl⟩
    case round =>
      obtain ⟨k, k1, k2, rfl, k3, HG, rfl⟩ := hrel
      by_cases hkm : (k : Int) ≤ m
      · by_cases hks : k < s.size
        · have hx0 : (0 : Int) ≤ (s[k].toNat : Int) := by omega
          have hx1 : ((s[k].toNat : Nat) : Int) < 256 := by have := s[k].toNat_lt; omega
          have ha := and192 (s[k].toNat : Int) hx0 hx1
          have HGX := hid (show (if m < (k : Int) then ((k : Int), m + 1 - (k : Int), true) else if (k : Int) = 1 ∧ ((s[k].toNat : Int) < lo ∨ hi < (s[k].toNat : Int)) ∨ ¬ (128 ≤ (s[k].toNat : Int) ∧ (s[k].toNat : Int) < 192) then (0, 0, false) else sgnG m lo hi ((k : Int) + 1) ((ns s).drop (k + 1))) = sgnR (ns s) by
            have h2 := HG.out; rw [ns_drop s k hks] at h2; simpa only [sgnG] using h2)
          obtain ⟨x, hx⟩ : ∃ x : Int, (s[k].toNat : Int) = x := ⟨_, rfl⟩
          rw [hx] at hx0 hx1 ha
          rw [hx] at HGX
          have hcs : (k = 1 ∧ x < lo) ∨ (k = 1 ∧ ¬ x < lo ∧ hi < x) ∨ (k = 1 ∧ ¬ x < lo ∧ ¬ hi < x ∧ ¬ (128 ≤ x ∧ x < 192)) ∨ (k = 1 ∧ ¬ x < lo ∧ ¬ hi < x ∧ (128 ≤ x ∧ x < 192)) ∨ (¬ k = 1 ∧ ¬ (128 ≤ x ∧ x < 192)) ∨ (¬ k = 1 ∧ (128 ≤ x ∧ x < 192)) := by omega
          rcases hcs with ⟨rfl, q2⟩ | ⟨rfl, q2, q3⟩ | ⟨rfl, q2, q3, q4⟩ | ⟨rfl, q2, q3, q4⟩ | ⟨q1, q4⟩ | ⟨q1, q4⟩
          · skip
            have HV := hid (show sgnR (ns s) = (0, 0, false) by rw [← HGX.out, if_neg (by omega), if_pos (by omega)])
            go_wp2
            try rw [Exit.noGoto_ret]
            refine bodyPost_ret (v := .tuple #[.int .i64 0, .int .i64 0, .bool false]) ?_ rfl ⟨by rw [HV.out], rfl⟩
            simp [results, Tryz.results86, go_sem]
          · skip
            have HV := hid (show sgnR (ns s) = (0, 0, false) by rw [← HGX.out, if_neg (by omega), if_pos (by omega)])
            go_wp2
            try rw [Exit.noGoto_ret]
            refine bodyPost_ret (v := .tuple #[.int .i64 0, .int .i64 0, .bool false]) ?_ rfl ⟨by rw [HV.out], rfl⟩
            simp [results, Tryz.results86, go_sem]
          · have e4 : (x / 64 * 64 != 128) = true := by simp; omega
            have HV := hid (show sgnR (ns s) = (0, 0, false) by rw [← HGX.out, if_neg (by omega), if_pos (by omega)])
            go_wp2
            try rw [Exit.noGoto_ret]
            refine bodyPost_ret (v := .tuple #[.int .i64 0, .int .i64 0, .bool false]) ?_ rfl ⟨by rw [HV.out], rfl⟩
            simp [results, Tryz.results86, go_sem]
          · have e4 : (x / 64 * 64 != 128) = false := by simp; omega
            have HV := hid (show sgnG m lo hi (((1 : Nat) : Int) + 1) ((ns s).drop (1 + 1)) = sgnR (ns s) by rw [← HGX.out, if_neg (by omega), if_neg (by omega)])
            go_wp2
            go_roundw
            case rel => exact ⟨1 + 1, by omega, by omega, by go_num, by omega, hid (by rw [← HV.out]; push_cast; rfl), trivial⟩
            case measure => simp [intOf]; omega
          · have e1 : ((k : Int) == 1) = false := by simp; omega
            have e4 : (x / 64 * 64 != 128) = true := by simp; omega
            have HV := hid (show sgnR (ns s) = (0, 0, false) by rw [← HGX.out, if_neg (by omega), if_pos (by omega)])
            go_wp2
            try rw [Exit.noGoto_ret]
            refine bodyPost_ret (v := .tuple #[.int .i64 0, .int .i64 0, .bool false]) ?_ rfl ⟨by rw [HV.out], rfl⟩
            simp [results, Tryz.results86, go_sem]
          · have e1 : ((k : Int) == 1) = false := by simp; omega
            have e4 : (x / 64 * 64 != 128) = false := by simp; omega
            have HV := hid (show sgnG m lo hi ((k : Int) + 1) ((ns s).drop (k + 1)) = sgnR (ns s) by rw [← HGX.out, if_neg (by omega), if_neg (by omega)])
            go_wp2
            go_roundw
            case rel => exact ⟨k + 1, by omega, by omega, by go_num, by omega, hid (by rw [← HV.out]; push_cast; rfl), trivial⟩
            case measure => simp [intOf]; omega
        · have HV := hid (show sgnR (ns s) = ((k : Int), m + 1 - (k : Int), true) by rw [← HG.out, List.drop_eq_nil_of_le (by rw [ns_len]; omega)]; rfl)
          go_wp2
          try rw [Exit.noGoto_ret]
          refine bodyPost_ret (v := .tuple #[.int .i64 k, .int .i64 (m + 1 - k), .bool true]) ?_ rfl ⟨by rw [HV.out], rfl⟩
          simp [results, Tryz.results86, go_sem]
      · have HV := hid (show sgnR (ns s) = ((k : Int), m + 1 - (k : Int), true) by rw [← HG.out]; cases hd : (ns s).drop k with
          | nil => rfl
          | cons a t => simp only [sgnG]; rw [if_pos (by omega)])
        go_wp2
        try rw [Exit.noGoto_ret]
        refine bodyPost_ret (v := .tuple #[.int .i64 k, .int .i64 (m + 1 - k), .bool true]) ?_ rfl ⟨by rw [HV.out], rfl⟩
        simp [results, Tryz.results86, go_sem]
end Go.Proofs.YtiohiiekaofkbaaGreatDoor
/- How many bytes there must be more; is it a text? (the package's own way) -/
namespace Go.Proofs.YtiohiiekaofkbaaGreatDoor
set_option linter.unusedVariables false
set_option linter.unusedSimpArgs false
open Go.RowKit
def needF : Nat → List Int → Int × Bool
  | 0, _ => (0, true)
  | f + 1, l => if l = [] then (0, true) else if (sgnR l).2.2 = false ∨ 0 < (sgnR l).2.1 then ((sgnR l).2.1, (sgnR l).2.2) else needF f (l.drop (sgnR l).1.toNat)
def need (l : List Int) : Int × Bool := needF l.length l
theorem sgnG_le (m lo hi : Int) (l : List Int) : ∀ n : Int, n ≤ m + 1 → (sgnG m lo hi n l).2.2 = true → n ≤ (sgnG m lo hi n l).1 ∧ (sgnG m lo hi n l).1 ≤ m + 1 ∧ (sgnG m lo hi n l).1 ≤ n + l.length ∧ (sgnG m lo hi n l).2.1 = m + 1 - (sgnG m lo hi n l).1 := by
  induction l with
  | nil => intro n h _; simp [sgnG]; omega
  | cons x t ih =>
    intro n h ht
    simp only [sgnG] at ht ⊢
    split at ht
    · rename_i h1; rw [if_pos h1]; simp; omega
    · rename_i h1
      split at ht
      · simp at ht
      · rename_i h2
        rw [if_neg h1, if_neg h2]
        have := ih (n + 1) (by omega) ht
        simp only [List.length_cons]
        push_cast
        omega
theorem sgnR_le (l : List Int) (h : (sgnR l).2.2 = true) : 1 ≤ (sgnR l).1 ∧ (sgnR l).1 ≤ 4 ∧ (sgnR l).1 ≤ l.length ∧ 0 ≤ (sgnR l).2.1 ∧ (sgnR l).2.1 ≤ 3 := by
  cases l with
  | nil => simp [sgnR] at h
  | cons b t =>
    have hl := leadR_le b
    simp only [sgnR] at h ⊢
    split at h
    · rename_i hb
      rw [if_pos hb]
      have := sgnG_le _ _ _ t 1 (by omega) h
      simp only [List.length_cons]
      push_cast
      omega
    · simp at h
theorem sgnG_neg (m lo hi : Int) (l : List Int) : ∀ n : Int, n ≤ m + 1 → 0 ≤ n → (sgnG m lo hi n l).2.2 = false → (sgnG m lo hi n l) = (0, 0, false) := by
  induction l with
  | nil => intro n h h0 ht; simp [sgnG] at ht
  | cons x t ih =>
    intro n h h0 ht
    simp only [sgnG] at ht ⊢
    split at ht
    · simp at ht
    · rename_i h1
      split at ht
      · rename_i h2; rw [if_neg h1, if_pos h2]
      · rename_i h2
        rw [if_neg h1, if_neg h2]
        exact ih (n + 1) (by omega) (by omega) ht
theorem sgnR_neg (l : List Int) (h : (sgnR l).2.2 = false) : sgnR l = (0, 0, false) := by
  cases l with
  | nil => rfl
  | cons b t =>
    have hl := leadR_le b
    simp only [sgnR] at h ⊢
    split at h
    · rename_i hb
      rw [if_pos hb]
      exact sgnG_neg _ _ _ t 1 (by omega) (by omega) h
    · rename_i hb; rw [if_neg hb]
theorem sgnR_bd (l : List Int) : 0 ≤ (sgnR l).1 ∧ (sgnR l).1 ≤ 4 ∧ (sgnR l).1 ≤ l.length ∧ 0 ≤ (sgnR l).2.1 ∧ (sgnR l).2.1 ≤ 3 := by
  cases h : (sgnR l).2.2 with
  | true => have := sgnR_le l h; omega
  | false => rw [sgnR_neg l h]; simp
theorem ns_extract (s : ByteArray) (k : Nat) (h : k ≤ s.size) : ns (s.extract k s.size) = (ns s).drop k := by
  unfold ns
  rw [Lib.extract_data, List.take_of_length_le (by simp), List.map_drop]
theorem empty_yes {t : ByteArray} (h : t.size = 0) : t.toList = [] ∧ (!t.toList.isEmpty) = false := by
  have e : t.data.toList = [] := by
    have : t.data.toList.length = 0 := by simpa using h
    exact List.eq_nil_of_length_eq_zero this
  rw [Lib.toList_data, e]; simp
theorem empty_no {t : ByteArray} (h : 0 < t.size) : (!t.toList.isEmpty) = true := by
  rw [Lib.toList_data]
  cases hd : t.data.toList with
  | nil => have : t.data.toList.length = t.size := by simp
           rw [hd] at this; simp at this; omega
  | cons a l => rfl
set_option maxHeartbeats 4000000 in
theorem need_walk (s : ByteArray) (w : World) (hs : s.size ≤ 140737488351232) :
    Calls Tryz.prog 66 #[.string s] w (fun e w' => e = .returned (.tuple #[.int .i64 (need (ns s)).1, .bool (need (ns s)).2]) ∧ w = w') := by
  go_enter Tryz.func66, Tryz.ntmps66
  go_wp2
  go_loopw [0] (fun v0 wr => ∃ (t : ByteArray) (f : Nat), v0 = .string t ∧ t.size ≤ 140737488351232 ∧ t.size ≤ f ∧ Hid (needF f (ns t) = need (ns s)) ∧ wr = w) (fun v0 _ => match v0 with | .string t => t.size | _ => 0)
  case atStart => exact ⟨s, s.size, rfl, hs, Nat.le_refl _, hid (by unfold need; rw [ns_len]), rfl⟩
  case round =>
    obtain ⟨t, f, rfl, ht, hf, HN, rfl⟩ := hrel
    rcases Nat.eq_zero_or_pos t.size with hz | hp
    · have HV := hid (show need (ns s) = (0, true) by
        rw [← HN.out]
        have : ns t = [] := List.eq_nil_of_length_eq_zero (by rw [ns_len]; exact hz)
        cases f <;> simp [needF, this])
      obtain ⟨q1, q2⟩ := empty_yes hz
      clear hz
      go_wp2
      refine bodyPost_ret (v := .tuple #[.int .i64 0, .bool true]) ?_ rfl ⟨by rw [HV.out], rfl⟩
      simp [results, Tryz.results66, go_sem]
    · have hb := sgnR_bd (ns t)
      obtain ⟨f, rfl⟩ : ∃ g, f = g + 1 := ⟨f - 1, by omega⟩
      have HN2 := hid (show (if (sgnR (ns t)).2.2 = false ∨ 0 < (sgnR (ns t)).2.1 then ((sgnR (ns t)).2.1, (sgnR (ns t)).2.2) else needF f ((ns t).drop (sgnR (ns t)).1.toNat)) = need (ns s) by
        have h2 := HN.out
        rw [needF, if_neg (fun h => by have q : (ns t).length = 0 := (by rw [h]; rfl); rw [ns_len] at q; omega)] at h2
        exact h2)
      rw [ns_len] at hb
      have hpos := sgnR_le (ns t)
      have hs0 := sign_walk t wr ht hp
      rcases hR : sgnR (ns t) with ⟨h, k, is⟩
      rw [hR] at hs0 hb HN2 hpos
      simp only at hs0 hb HN2 hpos
      obtain ⟨hb0, hb1, hb2, hb3, hb4⟩ := hb
      have HSW := hid hs0
      have q1 := empty_no hp
      clear hs0 hR
      cases is with
      | false =>
        have HV := hid (show need (ns s) = (k, false) by rw [← HN2.out]; simp)
        go_wp2_with (first | (go_at_call 86; ((with_reducible refine HSW.out.mono ?_); rintro e w' ⟨rfl, rfl⟩)))
        refine bodyPost_ret (v := .tuple #[.int .i64 k, .bool false]) ?_ rfl ⟨by rw [HV.out], rfl⟩
        simp [results, Tryz.results66, go_sem]
      | true =>
        have hpo := hpos rfl
        by_cases hk : 0 < k
        · have HV := hid (show need (ns s) = (k, true) by rw [← HN2.out]; simp [hk])
          go_wp2_with (first | (go_at_call 86; ((with_reducible refine HSW.out.mono ?_); rintro e w' ⟨rfl, rfl⟩)))
          refine bodyPost_ret (v := .tuple #[.int .i64 k, .bool true]) ?_ rfl ⟨by rw [HV.out], rfl⟩
          simp [results, Tryz.results66, go_sem]
        · have HV := hid (show needF f ((ns t).drop h.toNat) = need (ns s) by rw [← HN2.out, if_neg (by simp; omega)])
          have hsz : (t.extract h.toNat t.size).size = t.size - h.toNat := by simp
          have HSZ := hid hsz
          clear hsz hpos
          go_wp2_with (first | (go_at_call 86; ((with_reducible refine HSW.out.mono ?_); rintro e w' ⟨rfl, rfl⟩)))
          refine ⟨⟨_, f, rfl, by rw [HSZ.out]; omega, by rw [HSZ.out]; omega, hid (by rw [ns_extract t _ (by omega)]; exact HV.out), trivial⟩, ?_⟩
          show (t.extract h.toNat t.size).size < t.size
          rw [HSZ.out]
          omega
set_option maxHeartbeats 4000000 in
theorem valid_walk (s : ByteArray) (w : World) (hs : s.size ≤ 140737488351232) :
    Calls Tryz.prog 83 #[.string s] w (fun e w' => e = .returned (.bool ((need (ns s)).2 && (need (ns s)).1 == 0)) ∧ w = w') := by
  have hn := need_walk s w hs
  rcases hR : need (ns s) with ⟨k, is⟩
  rw [hR] at hn
  simp only at hn
  have HNW := hid hn
  clear hn hR
  go_enter Tryz.func83, Tryz.ntmps83
  go_wp2_with (first | (go_at_call 66; ((with_reducible refine HNW.out.mono ?_); rintro e w' ⟨rfl, rfl⟩)))
  all_goals
    go_ret
    refine ⟨ret_bool ?_, rfl⟩
    first | rfl | (simp [*]; done)
end Go.Proofs.YtiohiiekaofkbaaGreatDoor
/- The cursor: the next text. -/
namespace Go.Proofs.YtiohiiekaofkbaaGreatDoor
set_option linter.unusedVariables false
set_option linter.unusedSimpArgs false
open Go.RowKit
set_option maxHeartbeats 1000000 in
theorem name1_call (C : Nat) (c d r : Int) (W : World) (hc : 0 ≤ c) (hc2 : c ≤ 1099511627776) (hd : 0 ≤ d) (hd2 : d ≤ 9223372036854775807) (hr : 0 ≤ r) (hr2 : r ≤ 1099511627776) (hG : Glob W)
    (k0 : W.cell? ⟨C, 0, none⟩ = some (.int .i64 c)) (k1 : W.cell? ⟨C, 1, none⟩ = some (.int .i64 d)) :
    Calls Tryz.prog 64 #[.int .i64 r, .pointer (some ⟨C, 0, none⟩)] W (fun e w' => ∃ A k, e = .returned (.slice A (rgL 1 1 c d r).length k) ∧ RowR w' A (rgL 1 1 c d r) ∧ Below W.heap.size W w') := by
  have HK := hid (fun w' => counts_glob 1 1 c d r w' (by decide) (by decide) (by decide) (by decide) hc hc2 hd hd2 hr hr2)
  have HG := hid hG
  have HB := hid (cn_bd 1 1 c d r)
  clear hG
  go_enter Tryz.func64, Tryz.ntmps64
  go_wp2_with (first | (go_at_call 65; refine (HK.out _ HG.out).mono ?_; rintro e w1 ⟨rfl, hb1⟩; (first | have hq1 := hz1 | have hq1 := True.intro); (first | have hq0 := hz0 | have hq0 := True.intro); obtain ⟨hcc, hff⟩ := bcell hb1; have hz1 := hb1.size; (try simp at hz1); (try have hy1 := Nat.lt_of_lt_of_le hq1 hz1); (try have hy0 := Nat.lt_of_lt_of_le hq0 hz1); (try replace hz1 := Nat.lt_of_succ_le hz1); (try have hz0 := Nat.lt_of_succ_lt hz1)))
  go_ret
  refine ⟨some ⟨w1.heap.size, 0, none⟩, 1, rfl, .inr ⟨_, rfl, ?_, ?_⟩, ?_⟩
  · simp
  · intro i hi
    have : i = 0 := by simp [rgL] at hi; omega
    subst this
    exact ⟨by simp only [rgL]; go_simp, by simp only [rgL]; go_simp, HB.out⟩
  · exact bel
theorem name1_wants {g C : Nat} {c d : Int} {w : World} (hgl : 2 ≠ g) (hne2 : C ≠ g) (hc : 0 ≤ c) (hc2 : c ≤ 1099511627776) (hd : 0 ≤ d) (hd2 : d ≤ 9223372036854775807) (hG : Glob w)
    (k0 : w.cell? ⟨C, 0, none⟩ = some (.int .i64 c)) (k1 : w.cell? ⟨C, 1, none⟩ = some (.int .i64 d)) :
    Wants g 64 #[.pointer (some ⟨C, 0, none⟩)] w (rgL 1 1 c d) :=
  ⟨enters Tryz.func64 (by kernel_rfl) rfl, fun r => by simp [rgL], fun r r0 r1 W hW => name1_call C c d r W hc hc2 hd hd2 r0 r1 (hG.rd hgl hW) (hW.cell hne2 k0) (hW.cell hne2 k1)⟩
def nmM (l : List Int) (lim : Int) : Nat → Int → Int → Except (Int × Int) Int
  | 0, _, q => .ok q
  | k + 1, b, q => match nextR l q lim with
    | .error s => .error s
    | .ok _ =>
      if (need ((l.drop b.toNat).take (q + 1 - b).toNat)).2 = true ∧ (need ((l.drop b.toNat).take (q + 1 - b).toNat)).1 ≤ (k : Int) then nmM l lim k (if (need ((l.drop b.toNat).take (q + 1 - b).toNat)).1 = 0 then q + 1 else b) (q + 1)
      else .error (q, 2)
def nameM (a b : Int) (l : List Int) (p lim : Int) : Except (Int × Int) (List Int × Int) :=
  match uM (rgL 1 1 a b) l lim 5 0 p with
  | .error s => .error s
  | .ok (n, p1) => match nmM l lim n.toNat p1 p1 with
    | .error s => .error s
    | .ok q => .ok ((l.drop p1.toNat).take (q - p1).toNat, q)
theorem uM_ge {rg : Int → List (Int × Int)} {l : List Int} {lim : Int} : ∀ (k : Nat) (v p v' p' : Int), 0 ≤ v → (∀ x ∈ l, 0 ≤ x) → uM rg l lim k v p = .ok (v', p') → p ≤ p' ∧ 0 ≤ v' ∧ (k ≠ 0 → ∃ x, nextR l p lim = .ok x) := by
  intro k
  induction k with
  | zero => intro v p v' p' hv hl h
            simp only [uM, Except.ok.injEq, Prod.mk.injEq] at h
            exact ⟨by omega, by omega, fun h => absurd rfl h⟩
  | succ k ih =>
    intro v p v' p' hv hl h
    rw [uM] at h
    rcases hx : nextR l p lim with s | x
    · rw [hx] at h; cases h
    · rw [hx] at h
      have hxm := (next_mem hx).1
      have hd : 0 ≤ v + x % 128 * 128 ^ (4 - k) := by
        have := hl x hxm
        have h1 : 0 ≤ x % 128 * 128 ^ (4 - k) := Int.mul_nonneg (by omega) (Int.le_of_lt (Int.pow_pos (by decide)))
        omega
      simp only at h
      refine ⟨?_, ?_, fun _ => ⟨x, rfl⟩⟩
      · split at h
        · split at h
          · have := (ih _ _ _ _ hd hl h).1; omega
          · cases h
        · split at h
          · simp only [Except.ok.injEq, Prod.mk.injEq] at h; omega
          · cases h
      · split at h
        · split at h
          · exact (ih _ _ _ _ hd hl h).2.1
          · cases h
        · split at h
          · simp only [Except.ok.injEq, Prod.mk.injEq] at h; omega
          · cases h
theorem nmM_step {l : List Int} {lim b q x : Int} {k : Nat} (hx : nextR l q lim = .ok x) (dv : Int) (db : Bool) (hd : need ((l.drop b.toNat).take (q + 1 - b).toNat) = (dv, db)) :
    nmM l lim (k + 1) b q = if db = true ∧ dv ≤ (k : Int) then nmM l lim k (if dv = 0 then q + 1 else b) (q + 1) else .error (q, 2) := by
  rw [nmM, hx]; simp only [hd]
theorem nmM_stop {l : List Int} {lim b q : Int} {k : Nat} {s : Int × Int} (hx : nextR l q lim = .error s) : nmM l lim (k + 1) b q = .error s := by rw [nmM, hx]
theorem uM_lt {rg : Int → List (Int × Int)} {l : List Int} {lim : Int} : ∀ (k : Nat) (v p v' p' : Int), k ≤ 4 → 0 ≤ v → v < 128 ^ (4 - k) → (∀ x ∈ l, 0 ≤ x) → uM rg l lim (k + 1) v p = .ok (v', p') → v' < 4294967296 := by
  intro k
  induction k with
  | zero =>
    intro v p v' p' hk hv hv2 hl h
    rw [uM] at h
    rcases hx : nextR l p lim with s | x
    · rw [hx] at h; cases h
    · rw [hx] at h
      have hx0 := hl x (next_mem hx).1
      simp only at h
      split at h
      · split at h
        · rename_i q; exact absurd rfl q.1
        · cases h
      · split at h
        · rename_i q
          simp only [Except.ok.injEq, Prod.mk.injEq] at h
          rw [← h.1]
          exact digit_32 (by omega) hv hv2 hx0 (.inr (q.1.resolve_left (fun z => z rfl)))
        · cases h
  | succ k ih =>
    intro v p v' p' hk hv hv2 hl h
    rw [uM] at h
    rcases hx : nextR l p lim with s | x
    · rw [hx] at h; cases h
    · rw [hx] at h
      have hx0 := hl x (next_mem hx).1
      have hd := digit_bd hk hv hv2 hx0
      simp only at h
      split at h
      · split at h
        · exact ih _ _ _ _ (by omega) hd.1 (by rw [show 4 - k = 5 - (k + 1) by omega]; exact hd.2.1) hl h
        · cases h
      · split at h
        · simp only [Except.ok.injEq, Prod.mk.injEq] at h
          rw [← h.1]
          exact digit_32 hk hv hv2 hx0 (.inl (by omega))
        · cases h
theorem ns_str {l : List Int} (h : ∀ x ∈ l, 0 ≤ x ∧ x < 256) : ns (strOfNums l) = l := by
  simp only [ns, strOfNums, List.map_map]
  conv => rhs; rw [← List.map_id l]
  apply List.map_congr_left
  intro x hx
  have := h x hx
  simp only [Function.comp_apply, id]
  rw [UInt8.toNat_ofNat']
  omega
theorem str_len (l : List Int) : (strOfNums l).size = l.length := by simp [strOfNums, ByteArray.size]
theorem CB.cells {g c : Nat} {ad : Addr} {l : List Int} {p lim : Int} {w : World} (h : CB g (some ad) c l p lim w) : ∀ (j : Nat) (x : Int), l[j]? = some x → w.cell? (ad.add j) = some (.int .u8 x) := by
  rcases h.at_ with q | ⟨ad', e, q⟩
  · intro j x hj; rw [q] at hj; simp at hj
  · cases e; exact q
theorem need_str {l : List Int} (h : ∀ x ∈ l, 0 ≤ x ∧ x < 256) (hl : l.length ≤ 1000000000) (b n : Nat) (w : World) :
    Calls Tryz.prog 66 #[.string (strOfNums ((l.drop b).take n))] w (fun e w' => e = .returned (.tuple #[.int .i64 (need ((l.drop b).take n)).1, .bool (need ((l.drop b).take n)).2]) ∧ w = w') := by
  have := need_walk (strOfNums ((l.drop b).take n)) w (by rw [str_len]; simp only [List.length_take, List.length_drop]; omega)
  rwa [ns_str (fun x hx => h x (List.mem_of_mem_drop (List.mem_of_mem_take hx)))] at this
set_option maxRecDepth 100000 in
set_option maxHeartbeats 8000000 in
theorem name_walk (g : Nat) (A : Option Addr) (c : Nat) (l : List Int) (p lim : Int) (w : World) (a b : Int) (h : CB g A c l p lim w) (hcap : l.length ≤ c) (hG : Glob w) (hgl : 2 ≠ g) (a0 : 0 ≤ a) (a1 : a ≤ 1099511627776) (b0 : 0 ≤ b) (b1 : b ≤ 9223372036854775807) :
    Calls Tryz.prog 45 #[.pointer (some ⟨g, 0, none⟩), .agg #[.int .i64 a, .int .i64 b]] w (Post g A c l lim w (sRes (nameM a b l p lim))) := by
  have HU := hid (fun W (hC : CB g A c l p lim W) (hW : Rd g w W) C (hne : C ≠ g) (k0 : W.cell? ⟨C, 0, none⟩ = some (.int .i64 a)) (k1 : W.cell? ⟨C, 1, none⟩ = some (.int .i64 b)) => uint_walk g A c l p lim W 64 #[.pointer (some ⟨C, 0, none⟩)] _ hC (name1_wants hgl hne a0 a1 b0 b1 (hG.rd hgl hW) k0 k1))
  have HC := hid h
  have hlt := h.cu.lt
  have hmf : ∀ (fn : Fn) (first cap : Array Value) (w : World), (Instr.makeFunc fn first cap).run Tryz.prog w = .ok (.func fn first cap) w := fun _ _ _ _ => rfl
  have hb8 := hid h.b8
  have hl := h.hl
  rcases hu : uM (rgL 1 1 a b) l lim 5 0 p with s | ⟨n, p1⟩
  · have HE := hid (show nameM a b l p lim = .error s by rw [nameM, hu])
    rw [hu] at HU
    clear hu h hG
    go_enter Tryz.func45, Tryz.ntmps45
    go_wp2_with (first | (go_at_call 41; go_loud ((with_reducible refine (HU.out _ (HC.out.below bel) (grown_of_below bel _) _ (by omega) (by go_simp) (by go_simp)).mono ?_); rintro e w2 ⟨rfl, HG2⟩)))
    refine ⟨rfl, ?_⟩
    show Post g A c l lim w (sRes (nameM a b l p lim)) _ _
    rw [HE.out]
    exact ⟨rfl, (grown_of_below bel _).trans HG2⟩
  · have hl0 : ∀ x ∈ l, 0 ≤ x := fun x hx => (hb8.out x hx).1
    obtain ⟨g1, n0, hx⟩ := uM_ge 5 0 p n p1 (by decide) hl0 hu
    have n1 := uM_lt 4 0 p n p1 (by decide) (by decide) (by decide) hl0 hu
    obtain ⟨ad, rfl, hat⟩ : ∃ ad, A = some ad ∧ ∀ (j : Nat) (x : Int), l[j]? = some x → w.cell? (ad.add j) = some (.int .u8 x) := by
      rcases h.at_ with q | q
      · obtain ⟨x, hx⟩ := hx (by decide)
        rw [q] at hx; exact absurd (next_mem hx).1 (by simp)
      · exact q
    have HE := hid (show nameM a b l p lim = match nmM l lim n.toNat p1 p1 with | .error s => .error s | .ok q => .ok ((l.drop p1.toNat).take (q - p1).toNat, q) by rw [nameM, hu])
    rw [hu] at HU
    have hwn : IntKind.i64.wrap n = n := by rw [IntKind.wrap_i64]; omega
    clear hu h hG hx hl0
    have p0 := HC.out.p0
    go_enter Tryz.func45, Tryz.ntmps45
    go_wp2_with (first | (go_at_call 41; go_loud ((with_reducible refine (HU.out _ (HC.out.below bel) (grown_of_below bel _) _ (by omega) (by go_simp) (by go_simp)).mono ?_); rintro e w2 ⟨rfl, HC2, HG2⟩; have HC2 := hid HC2; obtain ⟨c0, c1, c2, f1, f2⟩ := HC2.out.cu)))
    have HR2 := hid ((grown_of_below bel _).trans HG2 : Rd g w w2)
    have q1 := HC2.out.p1
    have q0 := HC2.out.p0
    clear HU c0 c1 c2 f1 f2 HG2
    go_loopw [7, 8] (fun v7 v8 wr => ∃ (k : Nat) (bg q : Int), v8 = .int .i64 ((k : Int) - 1) ∧ v7 = .int .i64 bg ∧ (k : Int) ≤ n ∧ p1 ≤ bg ∧ bg ≤ q ∧ Hid (q = p1 + (n - k)) ∧ Hid (nmM l lim n.toNat p1 p1 = nmM l lim k bg q) ∧ Hid (CB g (some ad) c l q lim wr) ∧ Hid (Rd g w wr)) (fun _ v8 _ => (intOf v8 + 1).toNat)
    case atStart => exact ⟨n.toNat, p1, p1, by rw [Int.toNat_of_nonneg n0], rfl, by omega, by omega, by omega, hid (by omega), hid rfl, HC2, HR2⟩
    case round =>
      obtain ⟨k, bg, q, rfl, rfl, hk, hb1, hb2, hq, HN, HCr, HR⟩ := hrel
      have hqp := HCr.out.p1
      rcases k with _ | k
      · have hqe : q = p1 + n := by have := hq.out; omega
        have e0 : (((0 : Nat) : Int) - 1) = -1 := rfl
        rw [e0]
        have HF := hid (HN.out.trans (show nmM l lim 0 bg q = .ok q from rfl))
        have c0 := HCr.out.cu.c0
        have c1 := HCr.out.cu.c1
        have HQ := hid hqe
        have HCV := hid (fun (d : Nat) => show (convert 72 9 (.slice (if c = p1.toNat then some ad else some (ad.add p1.toNat)) (q - p1).toNat (c - p1.toNat))).run Tryz.prog (wr.drewN d) = .ok (.string (strOfNums ((l.drop p1.toNat).take (q - p1).toNat))) (wr.drewN d) from by
          by_cases e : c = p1.toNat
          · rw [if_pos e, show (q - p1).toNat = 0 by omega, List.take_zero]
            exact conv_cells (l := []) (fun j x h => by simp at h) _
          · rw [if_neg e]
            exact conv_sub (HCr.out.below (below_drewN _ _)).cells p1.toNat (q - p1).toNat (c - p1.toNat) (by omega))
        have HAX : ∃ AX, AX = (if c = p1.toNat then some ad else some (ad.add p1.toNat)) := ⟨_, rfl⟩
        obtain ⟨AX, hAX⟩ := HAX
        rw [← hAX] at HCV
        have HAX := hid hAX
        clear hqe hAX
        go_upto_region 12 with (fail)
        refine wp_region_quiet_lit (by kernel_rfl) (by kernel_rfl) ?_
        iterate 9 (quiet_step (fail))
        refine wpQuiet_step (fun K hK => ?_)
        go_simp
        refine ⟨.slice AX (q - p1).toNat (c - p1.toNat), fun a => ?_, hK _ ?_⟩
        · rw [if_pos (show 0 ≤ q ∧ q ≤ c by omega), if_pos (show p1 ≤ max q 0 by omega), show q.toNat - p1.toNat = (q - p1).toNat by omega, HAX.out]
          exact ⟨rfl, rfl⟩
        clear hK K
        refine wpQuiet_step (fun K hK => ?_)
        go_simp
        refine ⟨.string (strOfNums ((l.drop p1.toNat).take (q - p1).toNat)), fun a => ?_, hK _ ?_⟩
        · rw [HCV.out a]
          exact ⟨rfl, rfl⟩
        clear hK K
        quiet_step (fail)
        refine wpQuiet_nil ?_
        intro _ hw'
        obtain ⟨nq2, hw''⟩ := hw'
        subst hw''
        go_wp2_with fail
        go_ret
        show Post g (some ad) c l lim w (sRes (nameM a b l p lim)) _ _
        rw [HE.out, HF.out]
        exact ⟨rfl, HCr.out.below (below_drewN _ _), HR.out.trans (grown_of_below (below_drewN _ _) _)⟩
      have e8 : ((k + 1 : Nat) : Int) - 1 = (k : Int) := by omega
      rw [e8]
      have HX := hid (next_walk g (some ad) c l q lim wr HCr.out)
      rcases hx : nextR l q lim with s | x
      · have HF := hid (HN.out.trans (nmM_stop hx))
        rw [show nextV l q lim = .error s by rw [nextV, hx]] at HX
        clear hx
        go_wp2_with (first | (go_at_call 59; refine HX.out.mono ?_; rintro e w1 ⟨rfl, HG⟩))
        refine ⟨rfl, ?_⟩
        show Post g (some ad) c l lim w (sRes (nameM a b l p lim)) _ _
        rw [HE.out, HF.out]
        exact ⟨rfl, HR.out.trans HG⟩
      · rw [show nextV l q lim = .ok (.int .u8 x, q + 1) by rw [nextV, hx]] at HX
        rcases hd : need ((l.drop bg.toNat).take (q + 1 - bg).toNat) with ⟨dv, db⟩
        have HF := hid (HN.out.trans (nmM_step hx dv db hd))
        have HD := hid hd
        clear hx hd
        go_upto_region 8 with (first | (go_at_call 59; refine HX.out.mono ?_; rintro e w1 ⟨rfl, HC1, HG⟩; have HC1 := hid HC1))
        have HC1c := hid HC1.out.cells
        have HCV := hid (fun (W : World) (hb : Below w1.heap.size w1 W) => conv_sub (w := W) (HC1.out.below hb).cells bg.toNat (q + 1 - bg).toNat (c - bg.toNat) (by have := HC1.out.p1; omega))
        have hq1 := HC1.out.p1
        obtain ⟨c0, c1, c2, f1, f2⟩ := HC1.out.cu
        have S0 : w1.cell? ⟨g, 0, none⟩ = some (.slice (some ad) l.length c) ∧ w1.cell? ⟨g, 1, none⟩ = some (.int .i64 (q + 1)) ∧ w1.cell? ⟨g, 2, none⟩ = some (.int .i64 lim) ∧ Below w1.heap.size w1 w1 ∧ w1.heap.size ≤ w1.heap.size := ⟨c0, c1, c2, Below.refl _ _, Nat.le_refl _⟩
        clear c0 c1 c2
        refine wp_region_noPanic ?_
        refine wp_region_held_drew (S := (fun W => W.cell? ⟨g, 0, none⟩ = some (.slice (some ad) l.length c) ∧ W.cell? ⟨g, 1, none⟩ = some (.int .i64 (q + 1)) ∧ W.cell? ⟨g, 2, none⟩ = some (.int .i64 lim) ∧ Below w1.heap.size w1 W ∧ w1.heap.size ≤ W.heap.size)) (by kernel_rfl) ?hSa1 (fun hHeld => ?goa1)
        case hSa1 => first | exact hHeld | exact keepN hHeld (by assumption) | exact keepN hHeld (below_drewN _ _) | exact keepN S0 (below_drewN w1 _) | exact keepN S0 (Below.drew (Below.refl _ _))
        refine tk 0 ⟨some 29, .move (.tmp 0), 73, "cursor.go:190", #[], none⟩ rfl ?_
        refine tk 1 ⟨some 30, .nilCheck (.tmp 29), 0, "cursor.go:190", #[⟨0, .data⟩], none⟩ rfl ?_
        refine tk 2 ⟨some 31, .fieldAddr 156 (.tmp 30) 0, 0, "cursor.go:190", #[⟨1, .data⟩], none⟩ rfl ?_
        refine tk 3 ⟨some 32, .load 72 (.tmp 31), 72, "cursor.go:190", #[⟨2, .data⟩], none⟩ rfl ?_
        refine tk 4 ⟨some 33, .move (.tmp 7), 3, "cursor.go:190", #[], none⟩ rfl ?_
        refine tk 5 ⟨some 34, .move (.tmp 0), 73, "cursor.go:190", #[], none⟩ rfl ?_
        refine tk 6 ⟨some 35, .nilCheck (.tmp 34), 0, "cursor.go:190", #[⟨5, .data⟩], none⟩ rfl ?_
        refine tk 7 ⟨some 36, .fieldAddr 156 (.tmp 35) 1, 0, "cursor.go:190", #[⟨6, .data⟩], none⟩ rfl ?_
        refine tk 8 ⟨some 37, .load 3 (.tmp 36), 3, "cursor.go:190", #[⟨7, .data⟩], none⟩ rfl ?_
        refine wpAnyH_take (i := 9) (oi := ⟨some 38, .slice 72 (.tmp 32) (some (.tmp 33)) (some (.tmp 37)) none, 72, "cursor.go:190", #[⟨3, .data⟩, ⟨4, .data⟩, ⟨8, .data⟩], none⟩) (v := .slice (some (ad.add bg.toNat)) (q + 1 - bg).toNat (c - bg.toNat)) rfl (by kernel_rfl) (by kernel_rfl) (by kernel_rfl) (fun _ _ _ h => h) (Or.inl ⟨by rfl, ?hya11⟩) (by assumption) ?resta11
        case hya11 => (intro w hSw; (try dsimp only at hSw); go_simp; rw [if_pos (show 0 ≤ q + 1 ∧ q + 1 ≤ c by omega), if_pos (show 0 ≤ bg ∧ bg ≤ max (q + 1) 0 by omega), if_neg (show ¬ c = bg.toNat by omega), show (q + 1).toNat - bg.toNat = (q + 1 - bg).toNat by omega])
        simp only [Act.put, List.setIfInBounds_toArray, List.set_cons_zero, List.set_cons_succ]
        refine wpAnyH_take (i := 10) (oi := ⟨some 39, .convert 72 9 (.tmp 38), 9, "cursor.go:190", #[⟨9, .data⟩], none⟩) (v := .string (strOfNums ((l.drop bg.toNat).take (q + 1 - bg).toNat))) rfl (by kernel_rfl) (by kernel_rfl) (by kernel_rfl) (fun _ _ _ h => h) (Or.inl ⟨by rfl, ?hya12⟩) (by assumption) ?resta12
        case hya12 => (intro w hSw; (try dsimp only at hSw); go_simp; rw [HCV.out _ hSw.2.2.2.1]; rfl)
        simp only [Act.put, List.setIfInBounds_toArray, List.set_cons_zero, List.set_cons_succ]
        refine wpAnyH_ready (rs := [11]) (by kernel_rfl) (by simp) ?_
        refine AllReadyH.cons (o := ⟨some 40, .call { callee := .value (.func 66), args := #[.tmp 39], argTypes := #[9] }, 200, "cursor.go:190", #[⟨10, .data⟩], none⟩) rfl (fun K hK => ?_) AllReadyH.nil
        go_simp
        go_at_call 66; (with_reducible refine (need_str hb8.out hl _ _ _).mono ?_); rintro e wx ⟨rfl, rfl⟩; rw [HD.out]
        refine hK.out _ _ ?_ (fun hHeld => ?_)
        · (try dsimp only); first | exact hHeld | exact keepN hHeld (by assumption) | exact keepN hHeld (below_drewN _ _) | exact keepN S0 (below_drewN w1 _) | exact keepN S0 (Below.drew (Below.refl _ _))
        clear hK K
        try simp only [Act.put, List.setIfInBounds_toArray, List.set_cons_zero, List.set_cons_succ]
        refine tk 12 ⟨some 28, .move (.tmp 40), 200, "cursor.go:190", #[⟨11, .data⟩], none⟩ rfl ?_
        refine tk 13 ⟨some 41, .extract (.tmp 28) 0, 3, "cursor.go:190", #[⟨12, .data⟩], none⟩ rfl ?_
        refine tk 14 ⟨some 42, .extract (.tmp 28) 1, 4, "cursor.go:190", #[⟨12, .data⟩, { on := 15, ground := .gcOnly Go.Departure.lateStores }], none⟩ rfl ?_
        refine tk 15 ⟨some 9, .assign (.tmp 41), 3, "cursor.go:190", #[⟨13, .data⟩, ⟨11, .chain⟩, ⟨0, .phase⟩, ⟨1, .phase⟩, ⟨2, .phase⟩, ⟨3, .phase⟩, ⟨4, .phase⟩, ⟨5, .phase⟩, ⟨6, .phase⟩, ⟨7, .phase⟩, ⟨8, .phase⟩, ⟨9, .phase⟩, ⟨10, .phase⟩, ⟨11, .phase⟩, ⟨12, .phase⟩, ⟨13, .phase⟩, { on := 14, ground := .textOnly Go.Departure.lateStores }], none⟩ rfl ?_
        refine tk 16 ⟨some 10, .assign (.tmp 42), 4, "cursor.go:190", #[⟨14, .data⟩, ⟨15, .chain⟩, ⟨0, .phase⟩, ⟨1, .phase⟩, ⟨2, .phase⟩, ⟨3, .phase⟩, ⟨4, .phase⟩, ⟨5, .phase⟩, ⟨6, .phase⟩, ⟨7, .phase⟩, ⟨8, .phase⟩, ⟨9, .phase⟩, ⟨10, .phase⟩, ⟨11, .phase⟩, ⟨12, .phase⟩, ⟨13, .phase⟩, ⟨14, .phase⟩, ⟨15, .phase⟩], none⟩ rfl ?_
        refine wpAnyH_done (by kernel_rfl) ?_ _
        refine NoPanic.normal ?_
        skip
        obtain ⟨c0, c1, c2, hb3, hz3⟩ := hHeld
        have hwq : IntKind.i64.wrap q = q := by rw [IntKind.wrap_i64]; omega
        have HCn := hid (HC1.out.below hb3)
        have HRn := hid (HR.out.trans (HG.trans (grown_of_below hb3 _)))
        rcases db with _ | _
        · have HF2 := hid (HF.out.trans (by rw [if_neg (by simp)]))
          clear HF HD
          go_wp2_with (first | ((try rw [hwq]); go_at_call 38; refine (need_no q _).mono ?_; rintro e w3 ⟨rfl, rfl⟩))
          refine ⟨rfl, ?_⟩
          show Post g (some ad) c l lim w (sRes (nameM a b l p lim)) _ _
          rw [HE.out, HF2.out]
          exact ⟨rfl, HRn.out⟩
        · by_cases hle : dv ≤ (k : Int)
          · have HF2 := hid (HF.out.trans (by rw [if_pos ⟨rfl, hle⟩]))
            clear HF HD
            by_cases h0 : dv = 0
            · have HF3 := hid (HF2.out.trans (by rw [if_pos h0]))
              clear HF2
              go_wp2_with (first | ((try rw [hwq]); go_at_call 38; refine (need_yes q _).mono ?_; rintro e w3 ⟨rfl, rfl⟩))
              go_roundw
              case rel => exact ⟨k, q + 1, q + 1, by go_num, rfl, by omega, by omega, by omega, hid (by have := hq.out; omega), HF3, HCn, HRn⟩
              case measure => simp [intOf]
            · have HF3 := hid (HF2.out.trans (by rw [if_neg h0]))
              clear HF2
              go_wp2_with (first | ((try rw [hwq]); go_at_call 38; refine (need_yes q _).mono ?_; rintro e w3 ⟨rfl, rfl⟩))
              go_roundw
              case rel => exact ⟨k, bg, q + 1, by go_num, rfl, by omega, by omega, by omega, hid (by have := hq.out; omega), HF3, HCn, HRn⟩
              case measure => simp [intOf]
          · have HF2 := hid (HF.out.trans (by rw [if_neg (fun z => hle z.2)]))
            clear HF HD
            go_wp2_with (first | ((try rw [hwq]); go_at_call 38; refine (need_no q _).mono ?_; rintro e w3 ⟨rfl, rfl⟩))
            refine ⟨rfl, ?_⟩
            show Post g (some ad) c l lim w (sRes (nameM a b l p lim)) _ _
            rw [HE.out, HF2.out]
            exact ⟨rfl, HRn.out⟩
end Go.Proofs.YtiohiiekaofkbaaGreatDoor
/- Numbers as they are read: what is read was put, perhaps in more bytes. Plain. -/
namespace Go.Proofs.YtiohiiekaofkbaaGreatDoor
set_option linter.unusedVariables false
set_option linter.unusedSimpArgs false
open Go.RowKit
structure Enc (N : List Int) (v : Int) : Prop where
  dig : ∃ D y, Digits N D y
  val : val N = v
  len : N.length ≤ 5
  v0 : 0 ≤ v
  v1 : v ≤ 4294967295
theorem Enc.pos {N : List Int} {v : Int} (h : Enc N v) : 1 ≤ N.length := by
  obtain ⟨D, y, e, _⟩ := h.dig
  rw [e]; simp
theorem enc_read {rg : Int → List (Int × Int)} {l : List Int} {p lim v lo hi : Int} {N : List Int} (h : Enc N v) (hat : HasAt l p N) (p0 : 0 ≤ p) (hl : p + N.length ≤ lim) (hr : (lo, hi) ∈ rg (rest (p + N.length) lim)) (h0 : lo ≤ v) (h1 : v ≤ hi) : uM rg l lim 5 0 p = .ok (v, p + N.length) := by
  obtain ⟨D, y, e, hD, y0, y1⟩ := h.dig
  have hlen := h.len
  have hval := h.val
  subst e
  rw [List.length_append] at hl hlen
  simp only [List.length_singleton] at hl hlen
  have he : p + (D.length : Int) + 1 = p + ((D ++ [y]).length : Int) := by simp; omega
  have := uM_read (rg := rg) (l := l) (lim := lim) (V := v) (lo := lo) (hi := hi) (pe := p + D.length + 1) (by rw [he]; exact hr) h0 h1 h.v1 (by omega) y y0 y1 D 0 0 p (by omega) hD (by omega) (by simp) (by rw [hval]; simp) p0 rfl hat
  rw [he] at this
  exact this
theorem rest_in {p lim : Int} (h : 0 ≤ lim) : rest p lim = lim - p := by unfold rest; rw [if_neg (by omega)]
theorem ch_in {a b r : Int} (h0 : a ≤ r) (h1 : r < 1099511627776) (h2 : 1099511627776 ≤ b ∨ r ≤ b) : chB a b r = true := by
  unfold chB hasB
  rw [if_neg (by omega)]
  exact decide_eq_true ⟨h0, h2⟩
def Seg (l : List Int) (p q : Int) : List Int := (l.drop p.toNat).take (q - p).toNat
theorem seg_nil (l : List Int) (p : Int) : Seg l p p = [] := by unfold Seg; rw [Int.sub_self]; rfl
theorem seg_len {l : List Int} {p q : Int} (p0 : 0 ≤ p) (pq : p ≤ q) (ql : q ≤ l.length) : ((Seg l p q).length : Int) = q - p := by
  unfold Seg; rw [List.length_take, List.length_drop]; omega
theorem seg_app {l : List Int} {p q r : Int} (p0 : 0 ≤ p) (pq : p ≤ q) (qr : q ≤ r) : Seg l p q ++ Seg l q r = Seg l p r := by
  unfold Seg
  rw [show (r - p).toNat = (q - p).toNat + (r - q).toNat by omega, List.take_add, List.drop_drop, show p.toNat + (q - p).toNat = q.toNat by omega]
theorem seg_cons {l : List Int} {p q x : Int} (p0 : 0 ≤ p) (pq : p < q) (hx : l[p.toNat]? = some x) : Seg l p q = x :: Seg l (p + 1) q := by
  have hlt := (List.getElem?_eq_some_iff.1 hx).1
  have hv := (List.getElem?_eq_some_iff.1 hx).2
  unfold Seg
  rw [List.drop_eq_getElem_cons hlt, hv, show (q - p).toNat = (q - (p + 1)).toNat + 1 by omega, List.take_succ_cons, show (p + 1).toNat = p.toNat + 1 by omega]
theorem seg_all (l : List Int) : Seg l 0 l.length = l := by unfold Seg; simp
theorem next_ok2 {l : List Int} {p lim x : Int} (h : nextR l p lim = .ok x) : l[p.toNat]? = some x ∧ 0 < rest p lim ∧ p.toNat < l.length := by
  unfold nextR at h
  split at h
  · cases h
  · split at h
    · rename_i hr y hy
      simp only [Except.ok.injEq] at h
      subst h
      exact ⟨hy, by omega, (List.getElem?_eq_some_iff.1 hy).1⟩
    · cases h
theorem uM_put {rg : Int → List (Int × Int)} {l : List Int} {lim : Int} (h8 : ∀ x ∈ l, 0 ≤ x ∧ x < 256) (hlim : 0 ≤ lim) : ∀ (k i : Nat) (v p v' p' : Int), k + i = 5 → 0 ≤ p → 0 ≤ v → uM rg l lim k v p = .ok (v', p') → 1 ≤ k →
    ∃ D y, (∀ z ∈ D, 128 ≤ z ∧ z < 256) ∧ 0 ≤ y ∧ y < 128 ∧ Seg l p p' = D ++ [y] ∧ v' = v + 128 ^ i * val (D ++ [y]) ∧ D.length < k ∧ p' = p + D.length + 1 ∧ p' ≤ lim ∧ p' ≤ l.length ∧ fitsI v' 32 0 32 (rg (rest p' lim)) = true := by
  intro k
  induction k with
  | zero => intro i v p v' p' _ _ _ _ h; omega
  | succ k ih =>
    intro i v p v' p' hki p0 v0 h _
    rw [uM] at h
    rcases hx : nextR l p lim with s | x
    · rw [hx] at h; cases h
    · rw [hx] at h
      simp only at h
      obtain ⟨hx1, hx2, hx3⟩ := next_ok2 hx
      obtain ⟨x0, x1⟩ := h8 x (next_mem hx).1
      rw [rest_in hlim] at hx2
      have e4 : 4 - k = i := by omega
      rw [e4] at h
      have hP := pow128 i
      have hd : 0 ≤ x % 128 * 128 ^ i := Int.mul_nonneg (by omega) (by omega)
      split at h
      · rename_i hbig
        split at h
        · rename_i hk
          obtain ⟨D, y, hD, y0, y1, hS, hv, hl, hp, h1, h2, hf⟩ := ih (i + 1) _ (p + 1) v' p' (by omega) (by omega) (by omega) h (by omega)
          refine ⟨x :: D, y, ?_, y0, y1, ?_, ?_, by simp; omega, by simp only [List.length_cons]; omega, h1, h2, hf⟩
          · intro z hz
            rcases List.mem_cons.1 hz with rfl | hz
            · exact ⟨hbig, x1⟩
            · exact hD z hz
          · rw [seg_cons p0 (by omega) hx1, hS]; rfl
          · rw [hv]; simp only [List.cons_append, val, Int.pow_succ, Int.mul_add]
            rw [Int.mul_comm (128 ^ i) (x % 128), Int.mul_assoc]; omega
        · cases h
      · split at h
        · rename_i hc
          simp only [Except.ok.injEq, Prod.mk.injEq] at h
          obtain ⟨rfl, rfl⟩ := h
          refine ⟨[], x, by simp, x0, by omega, ?_, ?_, by simp, by simp, by omega, by omega, hc.2⟩
          · rw [seg_cons p0 (by omega) hx1, seg_nil]; rfl
          · simp only [List.nil_append, val]; rw [Int.mul_zero, Int.add_zero, Int.mul_comm]
        · cases h
theorem fits_in {v : Int} {rg : List (Int × Int)} (v0 : 0 ≤ v) (h : fitsI v 32 0 32 rg = true) (v1 : v < 4294967296) : ∃ lo hi, (lo, hi) ∈ rg ∧ lo ≤ v ∧ v ≤ hi := by
  unfold fitsI fitsB at h
  rw [List.any_eq_true] at h
  obtain ⟨⟨lo, hi⟩, hm, ho⟩ := h
  unfold fitOne at ho
  have ho := of_decide_eq_true ho
  simp only at ho
  obtain ⟨h1, h2, h3, h4⟩ := ho
  have hT : (2 : Int) ^ (32 : Int).toNat = 4294967296 := by decide
  rw [hT] at h2 h3 h4
  have hM : mostS 4294967296 4294967296 (2 ^ (7 * (0 : Int)).toNat) v 32 0 32 = 4294967295 := by
    unfold mostS; rw [if_neg (by decide)]; rfl
  rw [hM] at h4
  refine ⟨lo, hi, hm, ?_, ?_⟩
  · unfold fitV at h4
    split at h4
    · rename_i hlt
      have : 1 ≤ (lo - v + 4294967296 - 1) / 4294967296 := by omega
      omega
    · omega
  · unfold fitV at h3
    split at h3
    · rename_i hlt
      have : 1 ≤ (lo - v + 4294967296 - 1) / 4294967296 := by omega
      omega
    · omega
theorem uM_enc {rg : Int → List (Int × Int)} {l : List Int} {lim p v p' : Int} (h8 : ∀ x ∈ l, 0 ≤ x ∧ x < 256) (hlim : 0 ≤ lim) (p0 : 0 ≤ p) (h : uM rg l lim 5 0 p = .ok (v, p')) :
    Enc (Seg l p p') v ∧ p < p' ∧ p' ≤ lim ∧ p' ≤ l.length ∧ ∃ lo hi, (lo, hi) ∈ rg (rest p' lim) ∧ lo ≤ v ∧ v ≤ hi := by
  obtain ⟨D, y, hD, y0, y1, hS, hv, hl, hp, h1, h2, hf⟩ := uM_put h8 hlim 5 0 0 p v p' (by omega) p0 (by omega) h (by omega)
  have hb := uM_lt 4 0 p v p' (by decide) (by decide) (by decide) (fun x hx => (h8 x hx).1) h
  have hv0 : 0 ≤ v := by
    have := (val_lt (D ++ [y])).1
    rw [hv]; simp; exact this
  refine ⟨⟨⟨D, y, hS, hD, y0, y1⟩, by rw [hS, hv]; simp, by rw [hS]; simp; omega, hv0, by omega⟩, by omega, h1, h2, fits_in hv0 hf (by omega)⟩
end Go.Proofs.YtiohiiekaofkbaaGreatDoor
