/- The reference: does a sign of 1 bytes begin so? -/
import Derived.Test.YtlpocahflolmpaaU4
namespace Go.Proofs.Ytlpocahflolmpaa
set_option linter.unusedVariables false
set_option linter.unusedSimpArgs false
open Go.RowKit

set_option maxRecDepth 100000 in
set_option maxHeartbeats 8000000 in
theorem begins_1 (s : ByteArray) (w : World) (hs : s.size ≤ 140737488351232) (hp : 0 < s.size) :
    Calls Try.prog 34 #[.string s, .int .i64 1] w (fun e w' => e = .returned (.bool (begG 0 128 0 128 0 (ns s))) ∧ Below w.heap.size w w') := by
  have hR : begG 0 128 0 128 0 (ns s) = if (s[0].toNat : Int) - 0 < 0 ∨ 128 ≤ (s[0].toNat : Int) - 0 then false else bl 0 128 0 ((s[0].toNat : Int) - 0) ((ns s).drop 1) := by
    have h1 := ns_drop s 0 hp
    simp only [List.drop_zero, Nat.zero_add] at h1
    have h2 := congrArg (begG 0 128 0 128 0) h1
    rw [h2]
    rfl
  have hb1 : ((s[0].toNat : Nat) : Int) < 256 := by have := s[0].toNat_lt; omega
  have hb0 : (0 : Int) ≤ (s[0].toNat : Int) := by omega
  rcases hR0 : begG 0 128 0 128 0 (ns s) with _ | _
  all_goals
    rw [hR0] at hR
    have HR := hid hR
    clear hR hR0
    go_enter Try.func34, Try.ntmps34
    rcases Int.lt_or_le ((s[0].toNat : Int) - 0) 0 with c1 | c1
    · first
        | (exfalso; omega)
        | (exfalso; have := HR.out; rw [if_pos (.inl c1)] at this; cases this; done)
        | (clear HR; go_wp2; go_ret; exact ⟨rfl, (by repeat (first | exact Below.refl _ _ | assumption | refine Below.alloc ?_ (by first | exact Nat.le_refl _ | (simp; done) | (simp; omega) | omega) _ | refine Below.drew ?_ | refine Below.setCell ?_ (by first | exact Nat.le_refl _ | (simp; done) | (simp; omega) | omega) _ | refine below_call ?_ (by assumption) (by first | exact Nat.le_refl _ | (simp; done) | (simp; omega) | omega)))⟩)
    · rcases Int.lt_or_le ((s[0].toNat : Int) - 0) 128 with c2 | c2
      · have HB := hid (HR.out.trans (if_neg (show ¬ ((s[0].toNat : Int) - 0 < 0 ∨ 128 ≤ (s[0].toNat : Int) - 0) by omega))).symm
        clear HR
        go_wp2
        go_loop [9, 10] (fun v9 v10 => ∃ (j : Nat) (n : Int), v10 = .int .i64 j ∧ v9 = .int .i64 n ∧ 1 ≤ j ∧ j ≤ 1 ∧ j ≤ s.size ∧ 0 ≤ n ∧ ((j = 1 ∧ n < 128) ∨ (j = 2 ∧ n < 8192) ∨ (j = 3 ∧ n < 524288) ∨ (j = 4 ∧ n < 33554432)) ∧ Hid (bl 0 128 (1 - j) n ((ns s).drop j) = bl 0 128 0 ((s[0].toNat : Int) - 0) ((ns s).drop 1))) (fun _ v10 => (1 - intOf v10).toNat)
        case atStart => exact ⟨1, _, by go_num, rfl, by omega, by omega, hp, by omega, by omega, hid (by simp)⟩
        case round =>
          obtain ⟨j, n, rfl, rfl, j1, j2, j3, n0, hn, HJ⟩ := hrel
          have HJ2 := hid (HJ.out.trans HB.out)
          have nb : n < 33554432 := by omega
          by_cases hj : j < 1
          · exfalso; omega
          · have hj2 : j = 1 := by omega
            have HV := hid (show (decide (0 ≤ n) && decide (n < 128) && isB n) = bl 0 128 (1 - j) n ((ns s).drop j) by rw [hj2]; rfl)
            clear hn hj2
            go_wp2_with (first | (go_at_call 25; ((with_reducible refine (is_walk n _).mono ?_); rintro e w' ⟨rfl, hb⟩)))
            all_goals
              go_ret
              exact ⟨ret_bool (by first | (rw [← HJ2.out, ← HV.out]; done) | (rw [← HJ2.out, ← HV.out]; simp [*]; done) | (rw [← HJ2.out, ← HV.out]; simp [*]; intros; omega) | (rw [← HJ2.out, ← HV.out]; simp; intros; omega)), (by repeat (first | exact Below.refl _ _ | assumption | refine Below.alloc ?_ (by first | exact Nat.le_refl _ | (simp; done) | (simp; omega) | omega) _ | refine Below.drew ?_ | refine Below.setCell ?_ (by first | exact Nat.le_refl _ | (simp; done) | (simp; omega) | omega) _ | refine below_call ?_ (by assumption) (by first | exact Nat.le_refl _ | (simp; done) | (simp; omega) | omega)))⟩
      · first
          | (exfalso; have := HR.out; rw [if_pos (.inr c2)] at this; cases this; done)
          | (clear HR; go_wp2; go_ret; exact ⟨rfl, (by repeat (first | exact Below.refl _ _ | assumption | refine Below.alloc ?_ (by first | exact Nat.le_refl _ | (simp; done) | (simp; omega) | omega) _ | refine Below.drew ?_ | refine Below.setCell ?_ (by first | exact Nat.le_refl _ | (simp; done) | (simp; omega) | omega) _ | refine below_call ?_ (by assumption) (by first | exact Nat.le_refl _ | (simp; done) | (simp; omega) | omega)))⟩)

end Go.Proofs.Ytlpocahflolmpaa
