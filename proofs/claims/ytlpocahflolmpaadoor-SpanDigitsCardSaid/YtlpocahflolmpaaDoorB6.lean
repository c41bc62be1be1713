/- What the chapter's examples say (awake), and near. -/
import Derived.Test.YtlpocahflolmpaaDoorB4
import Derived.Test.YtlpocahflolmpaaDoorB5
namespace Go.Proofs.YtlpocahflolmpaaDoor
set_option linter.unusedVariables false
set_option linter.unusedSimpArgs false
open Go.RowKit

theorem ex_L : cnL 1 5 0 0 7 = 2 := by decide
theorem ex_H : cnH 1 5 0 0 7 = 7 := by decide
theorem ex_F1 : fitsI 44 7 1 32 [(300, 310)] = true := by decide
theorem ex_F2 : fitsI 0 7 1 32 [(300, 310)] = false := by decide

theorem ranges_one {w : World} {g : Nat} {a b : Int} (h0 : w.cell? ⟨g, 0, none⟩ = some (.int .u64 a)) (h1 : w.cell? ⟨g, 1, none⟩ = some (.int .u64 b)) (ha : 0 ≤ a) (ha2 : a ≤ 18446744073709551615) (hb : 0 ≤ b) (hb2 : b ≤ 18446744073709551615) : Hid (RangesAt w g [(a, b)]) := by
  intro i hi
  have : i = 0 := by simp at hi; omega
  subst this
  exact ⟨h0, h1, ha, ha2, hb, hb2⟩

def fitsX (low : Int) : Bool := fitsI low 7 1 32 [(300, 310)]
theorem fitsX_44 : fitsX 44 = true := ex_F1
theorem fitsX_0 : fitsX 0 = false := ex_F2
theorem fits_ex (g : Nat) (low : Int) (w : World) (hl : 0 ≤ low) (hl2 : low < 128) (hg : g < w.heap.size) (h0 : w.cell? ⟨g, 0, none⟩ = some (.int .u64 300)) (h1 : w.cell? ⟨g, 1, none⟩ = some (.int .u64 310)) :
    Calls Tryd.prog 15 #[.slice (some ⟨g, 0, none⟩) 1 1, .int .u64 low, .int .i64 7, .int .i64 1, .int .i64 32] w fun e w' => e = .returned (.bool (fitsX low)) ∧ Below w.heap.size w w' :=
  fits_any g 1 [(300, 310)] low 7 1 32 w (by decide) hg (ranges_one h0 h1 (by decide) (by decide) (by decide) (by decide)) hl hl2 (by decide) (by decide) (by decide) (by decide) (by decide) (by decide)
theorem counts_ex (w : World) (hw : 0 < w.heap.size) (g0 : w.cell? ⟨0, 0, none⟩ = some (.int .u64 1)) (g1 : w.cell? ⟨0, 1, none⟩ = some (.int .u64 0)) :
    Calls Tryd.prog 10 #[.agg #[.int .i64 1, .int .i64 5], .agg #[.int .i64 0, .int .i64 0], .int .i64 7] w fun e w' => e = .returned (.agg #[.int .u64 2, .int .u64 7]) ∧ Below w.heap.size w w' := by
  have hc := counts_any 1 5 0 0 7 w (by omega) (by omega) (by omega) (by omega) (by omega) (by omega) (by omega) (by omega) (by omega) (by omega) hw g0 g1
  rw [ex_L, ex_H] at hc
  exact hc

set_option maxHeartbeats 1000000 in
theorem awake_any (w : World) (hw : 0 < w.heap.size) (g0 : w.cell? ⟨0, 0, none⟩ = some (.int .u64 1)) (g1 : w.cell? ⟨0, 1, none⟩ = some (.int .u64 0)) :
    Calls Tryd.prog 14 #[] w fun e w' => e = .returned (.bool true) ∧ Below w.heap.size w w' := by
  have f1 := fitsX_44
  have f2 := fitsX_0
  go_enter Tryd.func14, Tryd.ntmps14
  go_wp2_with (first | (go_at_call 10; ((with_reducible refine (counts_ex _ hw g0 g1).mono ?_); rintro e w' ⟨rfl, hb1⟩; have hz1 := hb1.size; (try simp at hz1))) | (go_at_call 15; refine (fits_ex _ _ _ (by decide) (by decide) ?_ ?_ ?_).mono ?_; (focus (go_simp; done)); (focus (go_simp; done)); (focus (go_simp; done)); rintro e w' ⟨rfl, hb2⟩; have hz2 := hb2.size; (try simp at hz2)))
  go_ret
  exact ⟨rfl, (by repeat (first | exact Below.refl _ _ | assumption | refine Below.alloc ?_ (by first | exact Nat.le_refl _ | (simp; done) | (simp; omega) | omega) _ | refine Below.drew ?_ | refine Below.setCell ?_ (by first | exact Nat.le_refl _ | (simp; done) | (simp; omega) | omega) _ | refine below_call ?_ (by assumption) (by first | exact Nat.le_refl _ | (simp; done) | (simp; omega) | omega)))⟩

end Go.Proofs.YtlpocahflolmpaaDoor
