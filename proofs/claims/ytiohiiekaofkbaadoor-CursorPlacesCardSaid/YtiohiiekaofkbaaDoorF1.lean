/- The cursor's example: what is done within the two tries. -/
import Derived.Test.YtiohiiekaofkbaaDoorF0
import Derived.Test.YtiohiiekaofkbaaDoorE2
namespace Go.Proofs.YtiohiiekaofkbaaDoor
set_option linter.unusedVariables false
set_option linter.unusedSimpArgs false
open Go.RowKit Go.Proofs.YtiohiiekaofkbaaDoor.PCursorPlaces Go.Proofs.YtiohiiekaofkbaaDoorW.PrintWords

/-- the example's want -/
def xQ : S152 := ⟨1, 0, 0, ⟨1, 1⟩, ⟨0, 0⟩, ⟨0, 0⟩, []⟩
theorem xQ_fine : FineQ xQ := ⟨by decide, by decide, by decide, by decide, by decide, by decide, by decide, by decide, by decide, fun y hy => by cases hy⟩
theorem ex_u1 : uM (rgQ xQ) [129, 0, 7] 3 5 0 0 = .ok (1, 2) := by kernel_rfl
theorem ex_r1 : rawM [129, 0, 7] 2 3 1 = .ok ([7], 3) := by kernel_rfl
theorem ex_u2 : uM (rgQ xQ) [131, 0, 7] 3 5 0 0 = .error (0, 2) := by kernel_rfl
theorem xQ_wants {g B : Nat} {w : World} (hne : B ≠ g) (hgl : 5 ≠ g) (h : BoxQ B xQ none 0 w) (hG : Glob w) : Wants g 147 #[.pointer (some ⟨B, 0, none⟩)] w (rgQ xQ) :=
  ⟨enters Tryd.func147 (by kernel_rfl) rfl, fun r => rgQ_len xQ r (by decide), fun r r0 r1 W hW => want1_walk B xQ none 0 r W (h.rd hne hW) (Kd.C_nil _ _) xQ_fine r0 r1 (hG.rd hgl hW)⟩
set_option maxHeartbeats 2000000 in
theorem a0411_walk (g C T V B : Nat) (A : Option Addr) (c : Nat) (w : World) (h : CB g A c [129, 0, 7] 0 3 w) (hc3 : 3 ≤ c) (hG : Glob w) (hgl : 5 ≠ g) (hB : BoxQ B xQ none 0 w) (hBg : B ≠ g) (hVg : V ≠ g) (hVC : V ≠ C) (hCg : C ≠ g)
    (hc : w.cell? ⟨C, 0, none⟩ = some (.pointer (some ⟨g, 0, none⟩))) (ht : w.cell? ⟨T, 0, none⟩ = some (.func (.func 147) #[] #[.pointer (some ⟨B, 0, none⟩)])) {u : Value} (hv : w.cell? ⟨V, 0, none⟩ = some u) (hf : w.frozen? ⟨V, 0, none⟩ = false) (hGA : ∀ ad, A = some ad → ad.block ≠ V) :
    Calls Tryd.prog 116 #[.pointer (some ⟨C, 0, none⟩), .pointer (some ⟨T, 0, none⟩), .pointer (some ⟨V, 0, none⟩)] w (fun e w' => e = .returned (.tuple #[]) ∧ CB g A c [129, 0, 7] 3 3 w' ∧ w'.cell? ⟨V, 0, none⟩ = some (.int .u32 1) ∧ Fr (fun i => i = g ∨ i = V) w w') := by
  have HU := hid (fun W (hb : Below w.heap.size w W) => uint_walk g A c [129, 0, 7] 0 3 W 147 #[.pointer (some ⟨B, 0, none⟩)] (rgQ xQ) (h.below hb) (xQ_wants hBg hgl (hB.below hb) (hG.of hb)))
  rw [ex_u1] at HU
  have HW := hid (fun W (hC : CB g A c [129, 0, 7] 2 3 W) => raw_walk g A c [129, 0, 7] 2 3 1 W hC hc3 (by decide) (by decide))
  rw [ex_r1] at HW
  have HC := hid h
  clear h hB hG
  go_enter Tryd.func116, Tryd.ntmps116
  go_wp2_with (first | (go_at_call 107; (with_reducible refine (HU.out _ (by repeat (first | exact Below.refl _ _ | assumption | refine Below.alloc ?_ (by first | exact Nat.le_refl _ | (simp; done) | (simp; omega) | omega) _ | refine Below.drew ?_ | refine Below.setCell ?_ (by first | exact Nat.le_refl _ | (simp; done) | (simp; omega) | omega) _ | refine below_call ?_ (by assumption) (by first | exact Nat.le_refl _ | (simp; done) | (simp; omega) | omega)))).mono ?_); rintro e w1 ⟨rfl, HC1, HG1⟩; have HC1 := hid HC1; have hv1 := HG1.cell hVg hv; have hc1 := HG1.cell hCg hc; have hf1 : w1.frozen? ⟨V, 0, none⟩ = false := by rw [World.frozen?_of_block (a := ⟨V, 0, none⟩) (HG1.block V (cell_lt hv) (fun z => hVg (Option.some.inj z)))]; exact hf) | (go_at_call 111; (with_reducible refine (HW.out _ (HC1.out.set hVg hGA _)).mono ?_); rintro e w2 ⟨rfl, HC2, HG2⟩; have HC2 := hid HC2))
  go_end0
  have hF1 : Fr (fun i => i = g ∨ i = V) w (w1.setCell ⟨V, 0, none⟩ (.int .u32 1)) := ((Fr.of_rd ((Rd.of_below (g := g) (by repeat (first | exact Below.refl _ _ | assumption | refine Below.alloc ?_ (by first | exact Nat.le_refl _ | (simp; done) | (simp; omega) | omega) _ | refine Below.drew ?_ | refine Below.setCell ?_ (by first | exact Nat.le_refl _ | (simp; done) | (simp; omega) | omega) _ | refine below_call ?_ (by assumption) (by first | exact Nat.le_refl _ | (simp; done) | (simp; omega) | omega)))).trans HG1) (.inl rfl))).set (.inr rfl) _
  exact ⟨rfl, HC2.out, HG2.cell hVg (by apply World.cell?_setCell_same; exact hv1), hF1.trans (Fr.of_rd HG2 (.inl rfl))⟩
/-- what is done with the first bytes -/
def DnX (V : Nat) (w0 : World) (p : Int) (w' : World) : Prop := p = 3 ∧ w'.cell? ⟨V, 0, none⟩ = some (.int .u32 1) ∧ Fr (fun i => i = V ∨ w0.heap.size ≤ i) w0 w'
set_option maxHeartbeats 2000000 in
theorem a041_walk (g T V B : Nat) (ad : Addr) (c : Nat) (w0 w : World) (h0 : Below w0.heap.size w0 w) (h : CB g (some ad) c [129, 0, 7] 0 (-1) w) (hc3 : 3 ≤ c) (hG : Glob w) (hg : g = w0.heap.size + 1 + 1) (hw : w.heap.size = w0.heap.size + 1 + 1 + 1) (hgl : 5 < w0.heap.size) (hB : BoxQ B xQ none 0 w) (hB0 : B < w0.heap.size) (hV0 : V < w0.heap.size) (hT0 : T < w0.heap.size)
    (ht : w.cell? ⟨T, 0, none⟩ = some (.func (.func 147) #[] #[.pointer (some ⟨B, 0, none⟩)])) {u : Value} (hv : w.cell? ⟨V, 0, none⟩ = some u) (hf : w.frozen? ⟨V, 0, none⟩ = false) (hGA : ad.block ≠ V) :
    Calls Tryd.prog 115 #[.pointer (some ⟨g, 0, none⟩), .pointer (some ⟨T, 0, none⟩), .pointer (some ⟨V, 0, none⟩)] w (Does w0.heap.size (some ad) c [129, 0, 7] (DnX V w0) (fun _ _ _ => False) w) := by
  have HC := hid h
  have HW := hid (fun W (hW : Below w.heap.size w W) (hb : W.cell? ⟨w.heap.size, 0, none⟩ = some (.pointer (some ⟨g, 0, none⟩))) => within_walk g (some ad) c [129, 0, 7] 0 (-1) 3 W 116 #[.pointer (some ⟨w.heap.size, 0, none⟩), .pointer (some ⟨T, 0, none⟩), .pointer (some ⟨V, 0, none⟩)] (fun p W' => p = 3 ∧ W'.cell? ⟨V, 0, none⟩ = some (.int .u32 1) ∧ Fr (fun i => i = g ∨ i = V) W W') (fun _ _ _ => False) (h.below hW) (.inl (by omega)) (by omega) (by omega) (enters Tryd.func116 (by kernel_rfl) rfl)
    (fun U hU hC => (a0411_walk g w.heap.size T V B (some ad) c U hC hc3 ((hG.of hW).rd (by omega) hU) (by omega) ((hB.below hW).rd (by omega) hU) (by omega) (by omega) (by omega) (by omega) (hU.cell (by omega) hb) (hU.cell (by omega) (still hW ht)) (hU.cell (by omega) (still hW hv)) (by rw [World.frozen?_of_block (a := ⟨V, 0, none⟩) (hU.block V (by have := hW.size; omega) (fun z => by have := Option.some.inj z; omega)), World.frozen?_of_block (a := ⟨V, 0, none⟩) (hW.block V (by omega))]; exact hf) (fun ad' e => by cases e; exact hGA)).mono (fun e W' q => .inl ⟨q.1, 3, q.2.1, rfl, q.2.2.1, (Fr.of_rd hU (.inl rfl)).trans q.2.2.2⟩)))
  have HH := hid (And.intro hg hw)
  have hg1 : w0.heap.size + 1 < g := by omega
  have hg2 : g < w.heap.size := by omega
  clear h hg hw hB hG
  have hmf : ∀ (fn : Fn) (first cap : Array Value) (w : World), (Instr.makeFunc fn first cap).run Tryd.prog w = .ok (.func fn first cap) w := fun _ _ _ _ => rfl
  go_enter Tryd.func115, Tryd.ntmps115
  go_wp2_with (first | (go_at_call 45; (with_reducible refine (HW.out _ (by repeat (first | exact Below.refl _ _ | assumption | refine Below.alloc ?_ (by first | exact Nat.le_refl _ | (simp; done) | (simp; omega) | omega) _ | refine Below.drew ?_ | refine Below.setCell ?_ (by first | exact Nat.le_refl _ | (simp; done) | (simp; omega) | omega) _ | refine below_call ?_ (by assumption) (by first | exact Nat.le_refl _ | (simp; done) | (simp; omega) | omega))) (by go_simp)).mono ?_); rintro e w1 (⟨rfl, p', w', rfl, ⟨-, HGot, HF⟩, HC1, HG1⟩ | ⟨p', w', hp, ⟨h4, -, -⟩, -, -⟩ | ⟨q, er, -, hf⟩)))
  · go_end0
    have hF : Fr (fun i => i = g ∨ i = V) w w1 := ((Fr.of_below (by repeat (first | exact Below.refl _ _ | assumption | refine Below.alloc ?_ (by first | exact Nat.le_refl _ | (simp; done) | (simp; omega) | omega) _ | refine Below.drew ?_ | refine Below.setCell ?_ (by first | exact Nat.le_refl _ | (simp; done) | (simp; omega) | omega) _ | refine below_call ?_ (by assumption) (by first | exact Nat.le_refl _ | (simp; done) | (simp; omega) | omega)))).trans HF).trans (Fr.of_rd HG1 (.inl rfl))
    refine ⟨hF.size, fun i hi => hF.block i (by omega) (by omega), .inl ⟨rfl, 3, -1, ?_, rfl, HG1.cell (by omega) HGot, (Fr.of_below h0).trans (hF.mono (fun i _ q => by omega))⟩⟩
    rw [← HH.out.1]; exact HC1.cu
set_option maxHeartbeats 2000000 in
theorem a0421_walk (g C T B : Nat) (A : Option Addr) (c : Nat) (w : World) (h : CB g A c [131, 0, 7] 0 3 w) (hG : Glob w) (hgl : 5 ≠ g) (hB : BoxQ B xQ none 0 w) (hBg : B ≠ g)
    (hc : w.cell? ⟨C, 0, none⟩ = some (.pointer (some ⟨g, 0, none⟩))) (ht : w.cell? ⟨T, 0, none⟩ = some (.func (.func 147) #[] #[.pointer (some ⟨B, 0, none⟩)])) :
    Calls Tryd.prog 118 #[.pointer (some ⟨C, 0, none⟩), .pointer (some ⟨T, 0, none⟩)] w (fun e w' => Stops 0 2 e ∧ Rd g w w') := by
  have HU := hid (fun W (hb : Below w.heap.size w W) => uint_walk g A c [131, 0, 7] 0 3 W 147 #[.pointer (some ⟨B, 0, none⟩)] (rgQ xQ) (h.below hb) (xQ_wants hBg hgl (hB.below hb) (hG.of hb)))
  rw [ex_u2] at HU
  clear h hB hG
  go_enter Tryd.func118, Tryd.ntmps118
  go_wp2_with (first | (go_at_call 107; (with_reducible refine (HU.out _ (by repeat (first | exact Below.refl _ _ | assumption | refine Below.alloc ?_ (by first | exact Nat.le_refl _ | (simp; done) | (simp; omega) | omega) _ | refine Below.drew ?_ | refine Below.setCell ?_ (by first | exact Nat.le_refl _ | (simp; done) | (simp; omega) | omega) _ | refine below_call ?_ (by assumption) (by first | exact Nat.le_refl _ | (simp; done) | (simp; omega) | omega)))).mono ?_); rintro e w1 ⟨rfl, HG1⟩))
  exact ⟨rfl, rfl, (Rd.of_below (by repeat (first | exact Below.refl _ _ | assumption | refine Below.alloc ?_ (by first | exact Nat.le_refl _ | (simp; done) | (simp; omega) | omega) _ | refine Below.drew ?_ | refine Below.setCell ?_ (by first | exact Nat.le_refl _ | (simp; done) | (simp; omega) | omega) _ | refine below_call ?_ (by assumption) (by first | exact Nat.le_refl _ | (simp; done) | (simp; omega) | omega)))).trans HG1⟩
def StX (w0 : World) (p er : Int) (w' : World) : Prop := p = 0 ∧ er = 2 ∧ Fr (fun i => w0.heap.size ≤ i) w0 w'
set_option maxHeartbeats 2000000 in
theorem a042_walk (g T B : Nat) (ad : Addr) (c : Nat) (w0 w : World) (h0 : Below w0.heap.size w0 w) (h : CB g (some ad) c [131, 0, 7] 0 (-1) w) (hG : Glob w) (hg : g = w0.heap.size + 1 + 1) (hw : w.heap.size = w0.heap.size + 1 + 1 + 1) (hgl : 5 < w0.heap.size) (hB : BoxQ B xQ none 0 w) (hB0 : B < w0.heap.size) (hT0 : T < w0.heap.size)
    (ht : w.cell? ⟨T, 0, none⟩ = some (.func (.func 147) #[] #[.pointer (some ⟨B, 0, none⟩)])) :
    Calls Tryd.prog 117 #[.pointer (some ⟨g, 0, none⟩), .pointer (some ⟨T, 0, none⟩)] w (Does w0.heap.size (some ad) c [131, 0, 7] (fun _ _ => False) (StX w0) w) := by
  have HC := hid h
  have HW := hid (fun W (hW : Below w.heap.size w W) (hb : W.cell? ⟨w.heap.size, 0, none⟩ = some (.pointer (some ⟨g, 0, none⟩))) => within_walk g (some ad) c [131, 0, 7] 0 (-1) 3 W 118 #[.pointer (some ⟨w.heap.size, 0, none⟩), .pointer (some ⟨T, 0, none⟩)] (fun p W' => False) (fun p er W' => p = 0 ∧ er = 2 ∧ Rd g W W') (h.below hW) (.inl (by omega)) (by omega) (by omega) (enters Tryd.func118 (by kernel_rfl) rfl)
    (fun U hU hC => (a0421_walk g w.heap.size T B (some ad) c U hC ((hG.of hW).rd (by omega) hU) (by omega) ((hB.below hW).rd (by omega) hU) (by omega) (hU.cell (by omega) hb) (hU.cell (by omega) (still hW ht))).mono (fun e W' q => .inr ⟨0, 2, q.1, rfl, rfl, hU.trans q.2⟩)))
  have HH := hid (And.intro hg hw)
  have hg1 : w0.heap.size + 1 < g := by omega
  have hg2 : g < w.heap.size := by omega
  clear h hg hw hB hG
  have hmf : ∀ (fn : Fn) (first cap : Array Value) (w : World), (Instr.makeFunc fn first cap).run Tryd.prog w = .ok (.func fn first cap) w := fun _ _ _ _ => rfl
  go_enter Tryd.func117, Tryd.ntmps117
  go_wp2_with (first | (go_at_call 45; (with_reducible refine (HW.out _ (by repeat (first | exact Below.refl _ _ | assumption | refine Below.alloc ?_ (by first | exact Nat.le_refl _ | (simp; done) | (simp; omega) | omega) _ | refine Below.drew ?_ | refine Below.setCell ?_ (by first | exact Nat.le_refl _ | (simp; done) | (simp; omega) | omega) _ | refine below_call ?_ (by assumption) (by first | exact Nat.le_refl _ | (simp; done) | (simp; omega) | omega))) (by go_simp)).mono ?_); rintro e w1 (⟨rfl, p', w', rfl, hf, HC1, HG1⟩ | ⟨p', w', hp, hf, -, -⟩ | ⟨q, er, rfl, rfl, rfl, HG1⟩)))
  have hR : Rd g w w1 := (Rd.of_below (by repeat (first | exact Below.refl _ _ | assumption | refine Below.alloc ?_ (by first | exact Nat.le_refl _ | (simp; done) | (simp; omega) | omega) _ | refine Below.drew ?_ | refine Below.setCell ?_ (by first | exact Nat.le_refl _ | (simp; done) | (simp; omega) | omega) _ | refine below_call ?_ (by assumption) (by first | exact Nat.le_refl _ | (simp; done) | (simp; omega) | omega)))).trans HG1
  exact ⟨rfl, hR.size, fun i hi => hR.block i (by omega) (fun e => by have := Option.some.inj e; omega), .inr ⟨0, 2, rfl, rfl, rfl, (Fr.of_below h0).trans (Fr.of_rd hR (by show w0.heap.size ≤ g; omega))⟩⟩
end Go.Proofs.YtiohiiekaofkbaaDoor
