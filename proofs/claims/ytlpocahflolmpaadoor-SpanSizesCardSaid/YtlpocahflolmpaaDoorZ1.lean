/- The walk of the statement SpanSizes, where its guards let nothing in. -/
import Derived.Test.YtlpocahflolmpaaDoorZ0
namespace Go.Proofs.YtlpocahflolmpaaDoor
set_option linter.unusedVariables false
set_option linter.unusedSimpArgs false
open Go.RowKit

set_option maxHeartbeats 1000000 in
set_option maxRecDepth 100000 in
theorem sizes_no (a b c d r : Int) (w : World) (h : ¬ (rightB a b = true ∧ rightB c d = true ∧ 0 ≤ r ∧ r ≤ 1099511627776)) :
    Calls Tryd.prog 6 #[.agg #[.int .i64 a, .int .i64 b], .agg #[.int .i64 c, .int .i64 d], .int .i64 r] w fun e w' => e = .returned (.bool true) ∧ Below w.heap.size w w' := by
  have HH := hid h
  clear h
  go_enter Tryd.func6, Tryd.ntmps6
  go_upto_region 3 with (first | (go_at_call 9; refine (right_any _ _ _).mono ?_; rintro e w' ⟨rfl, hb1⟩; (first | have hq1 := hz1 | have hq1 := True.intro); (first | have hq0 := hz0 | have hq0 := True.intro); obtain ⟨hcc, hff⟩ := bcell hb1; have hz1 := hb1.size; (try simp at hz1); (try have hy1 := Nat.lt_of_lt_of_le hq1 hz1); (try have hy0 := Nat.lt_of_lt_of_le hq0 hz1); (try replace hz1 := Nat.lt_of_succ_le hz1); (try have hz0 := Nat.lt_of_succ_lt hz1)))
  all_goals first
    | (exfalso; exact HH.out ⟨by assumption, by first | assumption | simpa using (by assumption : (!rightB c d) = false), by omega⟩)
    | (go_ret; exact ⟨rfl, (by repeat (first | exact Below.refl _ _ | assumption | refine Below.alloc ?_ (by first | exact Nat.le_refl _ | (simp; done) | (simp; omega) | omega) _ | refine Below.drew ?_ | refine Below.setCell ?_ (by first | exact Nat.le_refl _ | (simp; done) | (simp; omega) | omega) _ | refine below_call ?_ (by assumption) (by first | exact Nat.le_refl _ | (simp; done) | (simp; omega) | omega)))⟩)
end Go.Proofs.YtlpocahflolmpaaDoor
