/- How many bytes a number has; how many bits there may be. -/
import Derived.Test.YtlpocahflolmpaaB4
import Derived.Deep.AppendLies
namespace Go.Proofs.Ytlpocahflolmpaa
set_option linter.unusedVariables false
set_option linter.unusedSimpArgs false
open Go.RowKit

theorem own_nil (w : World) (base : Nat) : Own w base (.slice none 0 0) [] := World.ownsRow_nil _ _ _ _
theorem Own.form {w : World} {base : Nat} {v : Value} {l : List Int} (h : Own w base v l) (hn : 0 < l.length) : ∃ g cap, v = .slice (some ⟨g, 0, none⟩) l.length cap ∧ base ≤ g ∧ g < w.heap.size := World.ownsRow.form h hn

/-- a number of 64 bits has at most ten digits by sevens -/
theorem uL_len (k : Nat) : ∀ x : Int, 0 ≤ x → x < 128 ^ (k + 1) → (uL x).length ≤ k + 1 := by
  induction k with
  | zero => intro x h0 h1; rw [uL_small (by omega)]; simp
  | succ k ih =>
    intro x h0 h1
    by_cases h : x < 128
    · rw [uL_small h]; simp
    · rw [uL_big (by omega)]
      have := ih (x / 128) (by omega) (by rw [Int.pow_succ] at h1; omega)
      simp; omega
theorem sL_len (k : Nat) : ∀ x : Int, -(64 * 128 ^ k) ≤ x → x < 64 * 128 ^ k → (sL x).length ≤ k + 1 := by
  induction k with
  | zero => intro x h0 h1; rw [sL_small (by omega)]; simp
  | succ k ih =>
    intro x h0 h1
    by_cases h : -64 ≤ x ∧ x < 64
    · rw [sL_small h]; simp
    · rw [sL_big h]
      rw [Int.pow_succ] at h0 h1
      have := ih (x / 128) (by omega) (by omega)
      simp; omega
theorem uL_len10 {x : Int} (h0 : 0 ≤ x) (h1 : x ≤ 18446744073709551615) : (uL x).length ≤ 10 := uL_len 9 x h0 (by omega)
theorem sL_len10 {x : Int} (h0 : -9223372036854775808 ≤ x) (h1 : x ≤ 9223372036854775807) : (sL x).length ≤ 10 := sL_len 9 x (by omega) (by omega)

set_option maxHeartbeats 1000000 in
theorem lebSizeU (w : World) (V : Int) (h0 : 0 ≤ V) (h1 : V ≤ 18446744073709551615) :
    Calls Try.prog 13 #[.int .u64 V] w (fun e w' => e = .returned (.int .i64 (uL V).length) ∧ Below w.heap.size w w') := by
  have hl := uL_len10 h0 h1
  have hp := uL_pos V
  go_enter Try.func13, Try.ntmps13
  go_wp2_with (first | (go_at_call 11; refine (lebPutU _ w.heap.size _ [] V h0 h1 (Nat.le_refl _) (own_nil _ _) (by simp; omega)).mono ?_; rintro e w' ⟨v, rfl, hown, hbel, hsz⟩; (obtain ⟨g, cap, rfl, hg0, hg1⟩ := hown.form (by simp only [List.nil_append]; omega)); have HO := hid hown; have HB := hid hbel; clear hown hbel) | go_in)
  go_ret
  exact ⟨by simp, HB.out⟩

set_option maxHeartbeats 1000000 in
theorem lebSizeS (w : World) (V : Int) (h0 : -9223372036854775808 ≤ V) (h1 : V ≤ 9223372036854775807) :
    Calls Try.prog 14 #[.int .i64 V] w (fun e w' => e = .returned (.int .i64 (sL V).length) ∧ Below w.heap.size w w') := by
  have hl := sL_len10 h0 h1
  have hp := sL_pos V
  go_enter Try.func14, Try.ntmps14
  go_wp2_with (first | (go_at_call 12; refine (lebPutS _ w.heap.size _ [] V h0 h1 (Nat.le_refl _) (own_nil _ _) (by simp; omega)).mono ?_; rintro e w' ⟨v, rfl, hown, hbel, hsz⟩; (obtain ⟨g, cap, rfl, hg0, hg1⟩ := hown.form (by simp only [List.nil_append]; omega)); have HO := hid hown; have HB := hid hbel; clear hown hbel) | go_in)
  go_ret
  exact ⟨by simp, HB.out⟩

/-- a count of bits that may be -/
def bitsI (n : Int) : Int := max 1 (min n 64)
theorem bitsI_le (n : Int) : 1 ≤ bitsI n ∧ bitsI n ≤ 64 := by unfold bitsI; omega

theorem lebWithin (w : World) (n : Int) : Calls Try.prog 28 #[.int .i64 n] w (fun e w' => e = .returned (.int .i64 (bitsI n)) ∧ Below w.heap.size w w') := by
  go_enter Try.func28, Try.ntmps28
  go_wp2
  all_goals
    go_ret
    refine ⟨ret_int ?_, (by repeat (first | exact Below.refl _ _ | assumption | refine Below.alloc ?_ (by first | exact Nat.le_refl _ | (simp; done) | (simp; omega) | omega) _ | refine Below.drew ?_ | refine Below.setCell ?_ (by first | exact Nat.le_refl _ | (simp; done) | (simp; omega) | omega) _ | refine below_call ?_ (by assumption) (by first | exact Nat.le_refl _ | (simp; done) | (simp; omega) | omega)))⟩
    unfold bitsI
    omega

end Go.Proofs.Ytlpocahflolmpaa
