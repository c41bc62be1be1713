/- The types' example, whole. -/
import Derived.Test.YtiohiiekaofkbaaDoorZA
import Derived.Test.YtiohiiekaofkbaaDoorZW
namespace Go.Proofs.YtiohiiekaofkbaaDoor
set_option linter.unusedVariables false
set_option linter.unusedSimpArgs false
open Go.RowKit Go.Proofs.YtiohiiekaofkbaaDoor.PWtypePuts Go.Proofs.YtiohiiekaofkbaaDoorW.PrintWords

theorem own_of_Kd {w : World} {base : Nat} {ok : Nat → Prop} {v : Value} {l : List Int} (h : Kd.R (Kd.int .u8) 5 w base ok v l) : Own w base v l := by
  have := Kd.own_of_R h
  exact this
theorem own_conv {W : World} {base : Nat} {v : Value} {l : List Int} (h : Own W base v l) : (convert 70 9 v).run Tryd.prog W = .ok (.string (strOfNums l)) W :=
  own_string (e := 5) Tryd.underlying70 Tryd.underlying5 Tryd.underlying9 h
/-- what is put of the example's limits -/
theorem lput_ex (w : World) : Calls Tryd.prog 36 #[.agg #[.bool true, .int .u32 1, .int .u32 2], .slice none 0 0] w (fun e w' => ∃ v, e = .returned v ∧ Hid (Own w' w.heap.size v [1, 1, 2]) ∧ Below w.heap.size w w') := by
  have h := limPut_some true 1 2 [] (by omega) (by omega) (by omega) (by omega) (by simp) 10 (by omega)
  have e : [] ++ lputB true 1 2 = [1, 1, 2] := by rw [lputB, uL_small (by omega), uL_small (by omega)]; rfl
  rw [e] at h
  refine (wtype_Limits_Put.calls 10 true 1 2 (fun _ => False) (.slice none 0 0) [] _ w w (Below.refl _ _) (Kd.R_nil _ _ _ _ _) h).mono ?_
  rintro e w' ⟨v, rfl, ho, hb, _⟩
  exact ⟨v, rfl, own_of_Kd ho, hb⟩
theorem GlobN.below {w W : World} (h : GlobN w) (hb : Below w.heap.size w W) : GlobN W := ⟨still hb h.c0, still hb h.c1⟩
set_option maxHeartbeats 4000000 in
set_option maxRecDepth 100000 in
theorem awake05_walk (w : World) (hG : GlobN w) : Calls Tryd.prog 42 #[] w (fun e w' => e = .returned (.bool true) ∧ Below w.heap.size w w') := by
  have hg3 := cell_lt hG.c0
  have H1 := hid (fun W (hW : Below w.heap.size w W) => try1_ex W (w.heap.size + 1 + 1) (w.heap.size + 1) (hG.below hW) (by omega))
  have H2 := hid (fun W BB (hG : GlobN W) => try2_ex W BB hG)
  have HG := hid hG
  clear hG
  have hmf : ∀ (fn : Fn) (first cap : Array Value) (w : World), (Instr.makeFunc fn first cap).run Tryd.prog w = .ok (.func fn first cap) w := fun _ _ _ _ => rfl
  have hst : ((strOfNums [1, 1, 2]).toList == [1, 1, 2]) = true := by decide +kernel
  go_enter Tryd.func42, Tryd.ntmps42
  go_wp2_with (first | (go_at_call 43; (with_reducible refine (H1.out _ (by repeat (first | exact Below.refl _ _ | assumption | refine Below.alloc ?_ (by first | exact Nat.le_refl _ | (simp; done) | (simp; omega) | omega) _ | refine Below.drew ?_ | refine Below.setCell ?_ (by first | exact Nat.le_refl _ | (simp; done) | (simp; omega) | omega) _ | refine below_call ?_ (by assumption) (by first | exact Nat.le_refl _ | (simp; done) | (simp; omega) | omega))) ⟨⟨.bool false, by go_simp⟩, ⟨.int .u32 0, by go_simp⟩, ⟨.int .u32 0, by go_simp⟩, by go_simp, by go_simp, by go_simp⟩ (by go_simp) (by go_simp) (by go_simp) (by go_simp)).mono ?_); rintro e w1 ⟨rfl, ⟨g0, g1, g2⟩, HF1⟩; have HF1 := hid HF1; have HG1 := hid (show GlobN w1 from ⟨HF1.out.cell (by omega) (HG.out.below (by repeat (first | exact Below.refl _ _ | assumption | refine Below.alloc ?_ (by first | exact Nat.le_refl _ | (simp; done) | (simp; omega) | omega) _ | refine Below.drew ?_ | refine Below.setCell ?_ (by first | exact Nat.le_refl _ | (simp; done) | (simp; omega) | omega) _ | refine below_call ?_ (by assumption) (by first | exact Nat.le_refl _ | (simp; done) | (simp; omega) | omega)))).c0, HF1.out.cell (by omega) (HG.out.below (by repeat (first | exact Below.refl _ _ | assumption | refine Below.alloc ?_ (by first | exact Nat.le_refl _ | (simp; done) | (simp; omega) | omega) _ | refine Below.drew ?_ | refine Below.setCell ?_ (by first | exact Nat.le_refl _ | (simp; done) | (simp; omega) | omega) _ | refine below_call ?_ (by assumption) (by first | exact Nat.le_refl _ | (simp; done) | (simp; omega) | omega)))).c1⟩); have l0 := HF1.out.cell (B := w.heap.size) (i := 0) (v := .bool true) (by omega) (by go_simp); have l1 := HF1.out.cell (B := w.heap.size) (i := 1) (v := .int .u32 1) (by omega) (by go_simp); have l2 := HF1.out.cell (B := w.heap.size) (i := 2) (v := .int .u32 2) (by omega) (by go_simp)) | (go_at_call 43; (with_reducible refine (H2.out _ _ (HG1.out.below (by repeat (first | exact Below.refl _ _ | assumption | refine Below.alloc ?_ (by first | exact Nat.le_refl _ | (simp; done) | (simp; omega) | omega) _ | refine Below.drew ?_ | refine Below.setCell ?_ (by first | exact Nat.le_refl _ | (simp; done) | (simp; omega) | omega) _ | refine below_call ?_ (by assumption) (by first | exact Nat.le_refl _ | (simp; done) | (simp; omega) | omega)))) (by go_simp) (by go_simp) (by go_simp) (by go_simp)).mono ?_); rintro e w2 ⟨rfl, hb2⟩; have hb12 := hid (Below.trans (Below.alloc (Below.refl w1.heap.size w1) (Nat.le_refl _) (.cells #[.int .u8 1, .int .u8 129, .int .u8 130, .int .u8 0] 5)) (hb2.mono (by simp))); have g0 := still hb12.out g0; have g1 := still hb12.out g1; have g2 := still hb12.out g2; have l0 := still hb12.out l0; have l1 := still hb12.out l1; have l2 := still hb12.out l2) | (go_at_call 36; (with_reducible refine (lput_ex _).mono ?_); rintro e w3 ⟨v, rfl, ho, hb3⟩; have hcv := own_conv ho.out; have g0 := still hb3 g0; have g1 := still hb3 g1; have g2 := still hb3 g2; have l0 := still hb3 l0; have l1 := still hb3 l1; have l2 := still hb3 l2))
  go_ret
  have hF : Fr (fun i => i = w.heap.size + 1) w w1 := (Fr.of_below (by repeat (first | exact Below.refl _ _ | assumption | refine Below.alloc ?_ (by first | exact Nat.le_refl _ | (simp; done) | (simp; omega) | omega) _ | refine Below.drew ?_ | refine Below.setCell ?_ (by first | exact Nat.le_refl _ | (simp; done) | (simp; omega) | omega) _ | refine below_call ?_ (by assumption) (by first | exact Nat.le_refl _ | (simp; done) | (simp; omega) | omega)))).trans (HF1.out.mono (fun i _ q => q))
  have hB : Below w.heap.size w w1 := hF.below _ (Nat.le_refl _) (fun i hi => by omega)
  have hz := hF.size
  exact ⟨rfl, (hB.trans (hb12.out.mono hz)).trans (hb3.mono (Nat.le_trans hz hb12.out.size))⟩
end Go.Proofs.YtiohiiekaofkbaaDoor
