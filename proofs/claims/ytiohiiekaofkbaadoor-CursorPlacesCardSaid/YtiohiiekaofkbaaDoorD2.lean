/- signed. -/
import Derived.Test.YtiohiiekaofkbaaDoorS1
namespace Go.Proofs.YtiohiiekaofkbaaDoor
set_option linter.unusedVariables false
set_option linter.unusedSimpArgs false
open Go.RowKit

def sgB (x n : Int) : Bool := x / 2 ^ (n.toNat - 1) == 0 || x / 2 ^ (n.toNat - 1) == 127 / 2 ^ (n.toNat - 1)
set_option maxHeartbeats 1000000 in
theorem signed_any (x n : Int) (w : World) (hx : 0 ≤ x) (hx2 : x < 128) (hn : 1 ≤ n) (hn2 : n ≤ 7) :
    Calls Tryd.prog 151 #[.int .u8 x, .int .i64 n] w (fun e w' => e = .returned (.bool (sgB x n)) ∧ Below w.heap.size w w') := by
  by_cases h : x / 2 ^ (n.toNat - 1) = 0
  · have e : sgB x n = true := by simp [sgB, h]
    go_enter Tryd.func151, Tryd.ntmps151
    go_wp2
    all_goals (try (exfalso; omega))
    all_goals (go_ret; simp [e, h] <;> exact Below.refl _ _)
  · go_enter Tryd.func151, Tryd.ntmps151
    go_wp2
    all_goals (try (exfalso; omega))
    all_goals (go_ret; simp [sgB, h] <;> exact Below.refl _ _)
end Go.Proofs.YtiohiiekaofkbaaDoor
