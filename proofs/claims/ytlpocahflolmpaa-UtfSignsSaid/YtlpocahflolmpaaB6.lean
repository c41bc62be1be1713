/- What is looked at in the last byte that there may be. -/
import Derived.Test.YtlpocahflolmpaaB5
namespace Go.Proofs.Ytlpocahflolmpaa
set_option linter.unusedVariables false
set_option linter.unusedSimpArgs false
open Go.RowKit

/-- may the last byte have such bits beyond? (29: without a sign; 32: with one) -/
def okF (f : Nat) (x c : Int) : Bool := if f = 29 then x / 2 ^ c.toNat == 0 else (x / 2 ^ (c.toNat - 1) == 0 || x / 2 ^ (c.toNat - 1) == 127 / 2 ^ (c.toNat - 1))

set_option maxHeartbeats 1000000 in
theorem ok_walk (f : Nat) (hf : f = 29 ∨ f = 32) (w : World) (x c : Int) (h0 : 0 ≤ x) (h1 : x < 256) (hc0 : 1 ≤ c) (hc1 : c ≤ 7) : Calls Try.prog f #[.int .u8 x, .int .i64 c] w (fun e w' => e = .returned (.bool (okF f x c)) ∧ Below w.heap.size w w') := by
  rcases hf with rfl | rfl
  · go_enter Try.func29, Try.ntmps29
    go_wp2
    go_ret
    exact ⟨ret_bool rfl, (by repeat (first | exact Below.refl _ _ | assumption | refine Below.alloc ?_ (by first | exact Nat.le_refl _ | (simp; done) | (simp; omega) | omega) _ | refine Below.drew ?_ | refine Below.setCell ?_ (by first | exact Nat.le_refl _ | (simp; done) | (simp; omega) | omega) _ | refine below_call ?_ (by assumption) (by first | exact Nat.le_refl _ | (simp; done) | (simp; omega) | omega)))⟩
  · go_enter Try.func32, Try.ntmps32
    go_wp2
    all_goals
      go_ret
      refine ⟨ret_bool ?_, (by repeat (first | exact Below.refl _ _ | assumption | refine Below.alloc ?_ (by first | exact Nat.le_refl _ | (simp; done) | (simp; omega) | omega) _ | refine Below.drew ?_ | refine Below.setCell ?_ (by first | exact Nat.le_refl _ | (simp; done) | (simp; omega) | omega) _ | refine below_call ?_ (by assumption) (by first | exact Nat.le_refl _ | (simp; done) | (simp; omega) | omega)))⟩
      simp [okF, *]

end Go.Proofs.Ytlpocahflolmpaa
