/- The reference: is there a sign of a number; is there a number with so many groups more; does a sign begin so. -/
import Derived.Test.YtlpocahflolmpaaU2
namespace Go.Proofs.Ytlpocahflolmpaa
set_option linter.unusedVariables false
set_option linter.unusedSimpArgs false
open Go.RowKit

def isB (n : Int) : Bool := decide (0 ≤ n ∧ n ≤ 1114111 ∧ (n < 55296 ∨ 57343 < n))
set_option maxHeartbeats 1000000 in
theorem is_walk (n : Int) (w : World) : Calls Try.prog 25 #[.int .i64 n] w (fun e w' => e = .returned (.bool (isB n)) ∧ Below w.heap.size w w') := by
  go_enter Try.func25, Try.ntmps25
  go_wp2
  all_goals
    go_ret
    exact ⟨ret_bool (by rw [Bool.eq_iff_iff]; simp [isB, *] <;> omega), (by repeat (first | exact Below.refl _ _ | assumption | refine Below.alloc ?_ (by first | exact Nat.le_refl _ | (simp; done) | (simp; omega) | omega) _ | refine Below.drew ?_ | refine Below.setCell ?_ (by first | exact Nat.le_refl _ | (simp; done) | (simp; omega) | omega) _ | refine below_call ?_ (by assumption) (by first | exact Nat.le_refl _ | (simp; done) | (simp; omega) | omega)))⟩

/-- is there a number with g groups of 6 bits more, from least on, below most? -/
def anyB (n p least most : Int) : Bool :=
  decide ((if 55296 ≤ (if n * p < least then least else n * p) ∧ (if n * p < least then least else n * p) ≤ 57343 then 57344 else (if n * p < least then least else n * p)) ≤ (if most ≤ n * p + p - 1 then most - 1 else n * p + p - 1))

set_option maxRecDepth 100000 in
set_option maxHeartbeats 4000000 in
theorem any_walk (n g least most : Int) (w : World) (n0 : 0 ≤ n) (n1 : n ≤ 10000000) (g0 : 1 ≤ g) (g1 : g ≤ 3) (l0 : 0 ≤ least) (l1 : least ≤ 2000000) (m0 : 1 ≤ most) (m1 : most ≤ 2000000) :
    Calls Try.prog 36 #[.int .i64 n, .int .i64 g, .int .i64 least, .int .i64 most] w (fun e w' => e = .returned (.bool (anyB n (64 ^ g.toNat) least most)) ∧ Below w.heap.size w w') := by
  go_enter Try.func36, Try.ntmps36
  go_wp2
  go_loopw [9, 10, 11] (fun v9 v10 v11 wr => ∃ (i lo hi : Int), v9 = .int .i64 lo ∧ v10 = .int .i64 hi ∧ v11 = .int .i64 i ∧ i ≤ g ∧ ((i = 0 ∧ lo = n ∧ hi = n) ∨ (i = 1 ∧ lo = n * 64 ∧ hi = n * 64 + 63) ∨ (i = 2 ∧ lo = n * 4096 ∧ hi = n * 4096 + 4095) ∨ (i = 3 ∧ lo = n * 262144 ∧ hi = n * 262144 + 262143)) ∧ wr = w) (fun _ _ v11 _ => (g - intOf v11).toNat)
  case atStart => exact ⟨0, n, n, rfl, rfl, rfl, by omega, .inl ⟨rfl, rfl, rfl⟩, rfl⟩
  case round =>
    obtain ⟨i, lo, hi, rfl, rfl, rfl, hi3, hrel, rfl⟩ := hrel
    by_cases hig : i < g
    · have HR := hid hrel
      have i0 : 0 ≤ i := by omega
      have i2 : i ≤ 3 := by omega
      have b0 : 0 ≤ lo := by omega
      have b1 : lo ≤ 10000000 * 4096 := by omega
      have b2 : 0 ≤ hi := by omega
      have b3 : hi ≤ 10000000 * 4096 + 4095 := by omega
      clear hrel
      go_wp2
      refine ⟨⟨_, _, _, rfl, rfl, rfl, by omega, ?_, trivial⟩, by simp [intOf]; omega⟩
      have := HR.out
      omega
    · have hig2 : i = g := by omega
      have HR := hid (show lo = n * 64 ^ g.toNat ∧ hi = n * 64 ^ g.toNat + 64 ^ g.toNat - 1 by
        rcases hrel with ⟨e, e1, e2⟩ | ⟨e, e1, e2⟩ | ⟨e, e1, e2⟩ | ⟨e, e1, e2⟩
        · omega
        · rw [show g.toNat = 1 by omega]; omega
        · rw [show g.toNat = 2 by omega]; omega
        · rw [show g.toNat = 3 by omega]; omega)
      clear hrel hig2
      go_wp2
      all_goals
        go_ret
        refine ⟨ret_bool ?_, (by repeat (first | exact Below.refl _ _ | assumption | refine Below.alloc ?_ (by first | exact Nat.le_refl _ | (simp; done) | (simp; omega) | omega) _ | refine Below.drew ?_ | refine Below.setCell ?_ (by first | exact Nat.le_refl _ | (simp; done) | (simp; omega) | omega) _ | refine below_call ?_ (by assumption) (by first | exact Nat.le_refl _ | (simp; done) | (simp; omega) | omega)))⟩
        simp only [anyB]
        rw [← HR.out.1, show lo + 64 ^ g.toNat - 1 = hi by have := HR.out.1; have := HR.out.2; omega, Bool.eq_iff_iff, decide_eq_true_iff, decide_eq_true_iff]
        by_cases c1 : lo < least
        · simp only [if_pos c1]
          by_cases c3 : 55296 ≤ least ∧ least ≤ 57343
          · simp only [if_pos c3]
            split <;> omega
          · simp only [if_neg c3]
            split <;> omega
        · simp only [if_neg c1]
          by_cases c3 : 55296 ≤ lo ∧ lo ≤ 57343
          · simp only [if_pos c3]
            split <;> omega
          · simp only [if_neg c3]
            split <;> omega

end Go.Proofs.Ytlpocahflolmpaa
