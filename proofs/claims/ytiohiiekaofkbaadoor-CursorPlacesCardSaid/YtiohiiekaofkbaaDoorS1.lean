/- Contracts of span's times, And, Times and of the reference's Mul, And, Times. -/
import Derived.Test.YtiohiiekaofkbaaDoorS0
import Derived.StillTailTactics
import Derived.Deep.QuietTactic
import Derived.BigQuiet
import Derived.Deep.RegionHeld3
namespace Go.Proofs.YtiohiiekaofkbaaDoor
open Go.RowKit

/-- n times m, at most 2^40 -/
def capM (n m : Int) : Int := if 1099511627776 < n * m then 1099511627776 else n * m

theorem div_lt {n m : Int} (hm : 0 < m) : 1099511627776 / m < n ↔ 1099511627776 < n * m := Int.ediv_lt_iff_lt_mul hm

set_option maxHeartbeats 400000 in
theorem times_any (n m : Int) (w : World) (hn : 0 ≤ n) (_hn2 : n ≤ 9223372036854775807) (hm : 0 ≤ m) (hm2 : m ≤ 9223372036854775807) :
    Calls Tryd.prog 162 #[.int .i64 n, .int .i64 m] w fun e w' => e = .returned (.int .i64 (capM n m)) ∧ w = w' := by
  rcases Int.le_iff_lt_or_eq.mp hm with h | h
  · by_cases hd : 1099511627776 / m < n
    · have hD := hid ((div_lt h).mp hd)
      go_enter Tryd.func162, Tryd.ntmps162
      go_wp2
      go_ret
      exact ⟨ret_int (by unfold capM; rw [if_pos hD.out]), rfl⟩
    · have hp : n * m ≤ 1099511627776 := Int.not_lt.mp (fun q => hd ((div_lt h).mpr q))
      have hp0 : 0 ≤ n * m := Int.mul_nonneg hn hm
      have hc : capM n m = n * m := by unfold capM; rw [if_neg (by omega)]
      have hC := hid hc
      clear hc
      go_enter Tryd.func162, Tryd.ntmps162
      go_wp2
      all_goals
        go_ret
        exact ⟨ret_int (by rw [hC.out]; try omega), rfl⟩
  · subst h
    go_enter Tryd.func162, Tryd.ntmps162
    go_wp2
    all_goals
      go_ret
      exact ⟨ret_int (by simp [capM]), rfl⟩

def andMin (a c : Int) : Int := a + c
def andMax (b d : Int) : Int := if 1099511627776 ≤ b ∨ 1099511627776 ≤ d ∨ 1099511627776 < b + d then 1099511627776 else b + d

set_option maxHeartbeats 400000 in
theorem and_any (a b c d : Int) (w : World) (ha : 0 ≤ a) (ha2 : a ≤ 4000000000000000000) (hc : 0 ≤ c) (hc2 : c ≤ 4000000000000000000) (hb : 0 ≤ b) (hd : 0 ≤ d) :
    Calls Tryd.prog 93 #[.agg #[.int .i64 a, .int .i64 b], .agg #[.int .i64 c, .int .i64 d]] w fun e w' => e = .returned (.agg #[.int .i64 (a + c), .int .i64 (andMax b d)]) ∧ Below w.heap.size w w' := by
  go_enter Tryd.func93, Tryd.ntmps93
  go_wp2
  all_goals (refine bodyPost_ret (v := .agg #[.int .i64 (a + c), .int .i64 (andMax b d)]) ?_ rfl ⟨rfl, (by repeat (first | exact Below.refl _ _ | assumption | refine Below.alloc ?_ (by first | exact Nat.le_refl _ | (simp; done) | (simp; omega) | omega) _ | refine Below.drew ?_ | refine Below.setCell ?_ (by first | exact Nat.le_refl _ | (simp; done) | (simp; omega) | omega) _ | refine below_call ?_ (by assumption) (by first | exact Nat.le_refl _ | (simp; done) | (simp; omega) | omega)))⟩)
  all_goals (simp [results, Tryd.results93, go_sem])
  all_goals (unfold andMax; omega)

def tmMin (a n : Int) : Int := if n ≤ 0 then 0 else capM n a
def tmMax (b n : Int) : Int := if n ≤ 0 then 0 else if 1099511627776 ≤ b then 1099511627776 else capM n b

set_option maxHeartbeats 400000 in
theorem tms_any (a b n : Int) (w : World) (ha : 0 ≤ a) (ha2 : a ≤ 4000000000000000000) (hb : 0 ≤ b) (hb2 : b ≤ 9223372036854775807) (hn : n ≤ 9223372036854775807) :
    Calls Tryd.prog 138 #[.agg #[.int .i64 a, .int .i64 b], .int .i64 n] w fun e w' => e = .returned (.agg #[.int .i64 (tmMin a n), .int .i64 (tmMax b n)]) ∧ Below w.heap.size w w' := by
  go_enter Tryd.func138, Tryd.ntmps138
  go_wp2_with (first | (go_at_call 162; refine (times_any _ _ _ (by omega) (by omega) (by omega) (by omega)).mono ?_; rintro e w' ⟨rfl, rfl⟩) | go_in)
  all_goals (refine bodyPost_ret (v := .agg #[.int .i64 (tmMin a n), .int .i64 (tmMax b n)]) ?_ rfl ⟨rfl, (by repeat (first | exact Below.refl _ _ | assumption | refine Below.alloc ?_ (by first | exact Nat.le_refl _ | (simp; done) | (simp; omega) | omega) _ | refine Below.drew ?_ | refine Below.setCell ?_ (by first | exact Nat.le_refl _ | (simp; done) | (simp; omega) | omega) _ | refine below_call ?_ (by assumption) (by first | exact Nat.le_refl _ | (simp; done) | (simp; omega) | omega)))⟩)
  all_goals (simp [results, Tryd.results138, go_sem])
  all_goals (unfold tmMin tmMax; constructor <;> (repeat (first | rw [if_pos (by omega)] | rw [if_neg (by omega)])))

end Go.Proofs.YtiohiiekaofkbaaDoor
