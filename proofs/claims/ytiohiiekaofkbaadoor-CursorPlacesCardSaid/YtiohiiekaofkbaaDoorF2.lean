/- The cursor's example, whole. -/
import Derived.Test.YtiohiiekaofkbaaDoorF1
import Derived.Test.YtiohiiekaofkbaaDoorC4
namespace Go.Proofs.YtiohiiekaofkbaaDoor
set_option linter.unusedVariables false
set_option linter.unusedSimpArgs false
open Go.RowKit Go.Proofs.YtiohiiekaofkbaaDoor.PCursorPlaces Go.Proofs.YtiohiiekaofkbaaDoorW.PrintWords

/-- the first try -/
theorem tryX1 (w : World) (BB T V B : Nat) (hG : Glob w) (hVB : V ≠ BB) (hB : BoxQ B xQ none 0 w) (ht : w.cell? ⟨T, 0, none⟩ = some (.func (.func 147) #[] #[.pointer (some ⟨B, 0, none⟩)])) {u : Value} (hv : w.cell? ⟨V, 0, none⟩ = some u) (hf : w.frozen? ⟨V, 0, none⟩ = false) (h0 : w.cell? ⟨BB, 0, none⟩ = some (.int .u8 129)) (h1 : w.cell? ⟨BB, 1, none⟩ = some (.int .u8 0)) (h2 : w.cell? ⟨BB, 2, none⟩ = some (.int .u8 7)) :
    Calls Tryd.prog 43 #[.slice (some ⟨BB, 0, none⟩) 3 3, .func (.func 115) #[] #[.pointer (some ⟨T, 0, none⟩), .pointer (some ⟨V, 0, none⟩)]] w (fun e w' => e = .returned (.tuple #[.int .i64 3, .int .i64 0]) ∧ w'.cell? ⟨V, 0, none⟩ = some (.int .u32 1) ∧ Fr (fun i => i = V) w w') := by
  have hB1 := cell_lt h0
  have hV1 := cell_lt hv
  have hT1 := cell_lt ht
  have hg3 := hG.size
  refine (try_walk (some ⟨BB, 0, none⟩) 3 [129, 0, 7] w 115 #[.pointer (some ⟨T, 0, none⟩), .pointer (some ⟨V, 0, none⟩)] (DnX V w) (fun _ _ _ => False) (enters Tryd.func115 (by kernel_rfl) rfl) ?_).mono ?_
  · intro W hW hz hC
    exact a041_walk (w.heap.size + 1 + 1) T V B ⟨BB, 0, none⟩ 3 w W hW ⟨hC, (BytesAt.three h0 h1 h2).fr (P := fun _ => False) (fun _ _ q => q) (Fr.of_below hW), fun ad e => by cases e; show BB ≠ _; omega, by omega, by simp, by simp, by omega, by intro x hx; simp at hx; omega⟩ (by omega) (hG.of hW) rfl hz hg3 (hB.below hW) (cell_lt hB.k) hV1 hT1 (still hW ht) (still hW hv) (by rw [World.frozen?_of_block (a := ⟨V, 0, none⟩) (hW.block V hV1)]; exact hf) (by show BB ≠ V; omega)
  · rintro e w' ⟨w1, hO, (⟨p, rfl, rfl, hg, hF⟩ | ⟨p, er, -, hf⟩)⟩
    · have hF2 : Fr (fun i => i = V ∨ w.heap.size ≤ i) w w' := hF.off hO (Nat.le_refl _) (by omega)
      have hlt : V < w1.heap.size := Nat.lt_of_lt_of_le hV1 hF.size
      have e : w'.cell? ⟨V, 0, none⟩ = w1.cell? ⟨V, 0, none⟩ := World.cell?_of_block (a := ⟨V, 0, none⟩) (hO.block V hlt (by omega) (by omega))
      exact ⟨rfl, e.trans hg, hF2.mono (fun i hi q => by omega)⟩
    · exact hf.elim
/-- the second try -/
theorem tryX2 (w : World) (BB T B : Nat) (hG : Glob w) (hB : BoxQ B xQ none 0 w) (ht : w.cell? ⟨T, 0, none⟩ = some (.func (.func 147) #[] #[.pointer (some ⟨B, 0, none⟩)])) (h0 : w.cell? ⟨BB, 0, none⟩ = some (.int .u8 131)) (h1 : w.cell? ⟨BB, 1, none⟩ = some (.int .u8 0)) (h2 : w.cell? ⟨BB, 2, none⟩ = some (.int .u8 7)) :
    Calls Tryd.prog 43 #[.slice (some ⟨BB, 0, none⟩) 3 3, .func (.func 117) #[] #[.pointer (some ⟨T, 0, none⟩)]] w (fun e w' => e = .returned (.tuple #[.int .i64 0, .int .i64 2]) ∧ Below w.heap.size w w') := by
  have hB1 := cell_lt h0
  have hT1 := cell_lt ht
  have hg3 := hG.size
  refine (try_walk (some ⟨BB, 0, none⟩) 3 [131, 0, 7] w 117 #[.pointer (some ⟨T, 0, none⟩)] (fun _ _ => False) (StX w) (enters Tryd.func117 (by kernel_rfl) rfl) ?_).mono ?_
  · intro W hW hz hC
    exact a042_walk (w.heap.size + 1 + 1) T B ⟨BB, 0, none⟩ 3 w W hW ⟨hC, (BytesAt.three h0 h1 h2).fr (P := fun _ => False) (fun _ _ q => q) (Fr.of_below hW), fun ad e => by cases e; show BB ≠ _; omega, by omega, by simp, by simp, by omega, by intro x hx; simp at hx; omega⟩ (hG.of hW) rfl hz hg3 (hB.below hW) (cell_lt hB.k) hT1 (still hW ht)
  · rintro e w' ⟨w1, hO, (⟨p, rfl, hf⟩ | ⟨p, er, rfl, rfl, rfl, hF⟩)⟩
    · exact hf.elim
    · exact ⟨rfl, (hF.off hO (Nat.le_refl _) (by omega)).below _ (Nat.le_refl _) (fun i hi => by omega)⟩
set_option maxHeartbeats 4000000 in
set_option maxRecDepth 100000 in
theorem awake04_walk (w : World) (hG : Glob w) : Calls Tryd.prog 57 #[] w (fun e w' => e = .returned (.bool true) ∧ Below w.heap.size w w') := by
  have hg3 := hG.size
  have HG := hid hG
  have HW := hid (fun W => show Calls Tryd.prog 108 #[.agg #[.int .i64 1, .int .u64 0, .int .u64 0, .int .i64 1, .int .i64 1, .int .i64 0, .int .i64 0, .int .i64 0, .int .i64 0, .slice none 0 0]] W (fun e w' => ∃ B, e = .returned (.func (.func 147) #[] #[.pointer (some ⟨B, 0, none⟩)]) ∧ W.heap.size ≤ B ∧ BoxQ B xQ none 0 w' ∧ Below W.heap.size W w') from want_any xQ none 0 W)
  have H1 := hid (fun W BB T V B (hG : Glob W) => tryX1 (u := .int .u32 9) W BB T V B hG)
  have H2 := hid (fun W BB T B (hG : Glob W) => tryX2 W BB T B hG)
  clear hG
  have hmf : ∀ (fn : Fn) (first cap : Array Value) (w : World), (Instr.makeFunc fn first cap).run Tryd.prog w = .ok (.func fn first cap) w := fun _ _ _ _ => rfl
  have hsf : ∀ (a : Addr) (f : Fn) (x y : Array Value) (m : Mode) (w : World), (store a (.func f x y) m).run Tryd.prog w = stored Tryd.prog w a (.func f x y) m := fun a f x y m w => run_store _ w a _ m rfl
  go_enter Tryd.func57, Tryd.ntmps57
  go_wp2_with (first | (go_at_call 108; (with_reducible refine (HW.out _).mono ?_); rintro e w1 ⟨B, rfl, hB1, hbox, hb1⟩; have HBX := hid hbox; have hB2 := cell_lt hbox.k; have HG1 := hid (HG.out.of hb1)) | (go_at_call 43; have HB := hid (show Below w1.heap.size w1 (((w1.alloc (.cells #[.func (.func 147) #[] #[.pointer (some ⟨B, 0, none⟩)]] 161)).alloc (.cells #[.int .u32 9] 45)).alloc (.cells #[.int .u8 129, .int .u8 0, .int .u8 7] 5)) from (by repeat (first | exact Below.refl _ _ | assumption | refine Below.alloc ?_ (by first | exact Nat.le_refl _ | (simp; done) | (simp; omega) | omega) _ | refine Below.drew ?_ | refine Below.setCell ?_ (by first | exact Nat.le_refl _ | (simp; done) | (simp; omega) | omega) _ | refine below_call ?_ (by assumption) (by first | exact Nat.le_refl _ | (simp; done) | (simp; omega) | omega)))); (with_reducible refine (H1.out _ _ (w1.heap.size) (w1.heap.size + 1) B (HG1.out.of HB.out) (by omega) (HBX.out.below HB.out) (by go_simp) (by go_simp) (by go_simp) (by go_simp) (by go_simp) (by go_simp)).mono ?_); rintro e w2 ⟨rfl, g0, HF1⟩; have HF1 := hid HF1; have HG2 := hid (show Glob w2 from ⟨Nat.lt_of_lt_of_le (HG1.out.of HB.out).size HF1.out.size, HF1.out.cell (by have := HG1.out.size; omega) (HG1.out.of HB.out).c0, HF1.out.cell (by have := HG1.out.size; omega) (HG1.out.of HB.out).c1⟩); have HBX2 := hid (show BoxQ B xQ none 0 w2 from have h := HBX.out.below HB.out; ⟨HF1.out.cell (by omega) h.k, HF1.out.cell (by omega) h.lo, HF1.out.cell (by omega) h.hi, HF1.out.cell (by omega) h.i0, HF1.out.cell (by omega) h.i1, HF1.out.cell (by omega) h.o0, HF1.out.cell (by omega) h.o1, HF1.out.cell (by omega) h.b0, HF1.out.cell (by omega) h.b1, HF1.out.cell (by omega) h.pk⟩); have t0 := HF1.out.cell (B := w1.heap.size) (i := 0) (v := .func (.func 147) #[] #[.pointer (some ⟨B, 0, none⟩)]) (by omega) (by go_simp)) | (go_at_call 43; (with_reducible refine (H2.out _ _ (w1.heap.size) B (HG2.out.of ((Below.refl _ _).alloc (Nat.le_refl _) _)) (HBX2.out.below ((Below.refl _ _).alloc (Nat.le_refl _) _)) (still ((Below.refl _ _).alloc (Nat.le_refl _) _) t0) (by go_simp) (by go_simp) (by go_simp)).mono ?_); rintro e w3 ⟨rfl, hb3⟩; have hb23 := hid (Below.trans (Below.alloc (Below.refl w2.heap.size w2) (Nat.le_refl _) (.cells #[.int .u8 131, .int .u8 0, .int .u8 7] 5)) (hb3.mono (by simp))); have g0 := still hb23.out g0))
  go_ret
  have hz := HF1.out.size
  simp at hz
  have hB2 : Below w.heap.size w w2 := ((hb1.trans (HB.out.mono hb1.size))).trans (HF1.out.below w.heap.size (by have := hb1.size; have := HB.out.size; omega) (fun i hi => by have := hb1.size; omega))
  exact ⟨rfl, hB2.trans (hb23.out.mono hB2.size)⟩
end Go.Proofs.YtiohiiekaofkbaaDoor
