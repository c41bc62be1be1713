/- The reference: does a sign of 4 bytes begin so? -/
import Derived.Test.YtlpocahflolmpaaU4
namespace Go.Proofs.Ytlpocahflolmpaa
set_option linter.unusedVariables false
set_option linter.unusedSimpArgs false
open Go.RowKit

set_option maxRecDepth 100000 in
set_option maxHeartbeats 8000000 in
theorem begins_4 (s : ByteArray) (w : World) (hs : s.size ≤ 140737488351232) (hp : 0 < s.size) :
    Calls Try.prog 34 #[.string s, .int .i64 4] w (fun e w' => e = .returned (.bool (begG 240 8 65536 1114112 3 (ns s))) ∧ Below w.heap.size w w') := by
  have hR : begG 240 8 65536 1114112 3 (ns s) = if (s[0].toNat : Int) - 240 < 0 ∨ 8 ≤ (s[0].toNat : Int) - 240 then false else bl 65536 1114112 3 ((s[0].toNat : Int) - 240) ((ns s).drop 1) := by
    have h1 := ns_drop s 0 hp
    simp only [List.drop_zero, Nat.zero_add] at h1
    have h2 := congrArg (begG 240 8 65536 1114112 3) h1
    rw [h2]
    rfl
  have hb1 : ((s[0].toNat : Nat) : Int) < 256 := by have := s[0].toNat_lt; omega
  have hb0 : (0 : Int) ≤ (s[0].toNat : Int) := by omega
  rcases hR0 : begG 240 8 65536 1114112 3 (ns s) with _ | _
  all_goals
    rw [hR0] at hR
    have HR := hid hR
    clear hR hR0
    go_enter Try.func34, Try.ntmps34
    rcases Int.lt_or_le ((s[0].toNat : Int) - 240) 0 with c1 | c1
    · first
        | (exfalso; omega)
        | (exfalso; have := HR.out; rw [if_pos (.inl c1)] at this; cases this; done)
        | (clear HR; go_wp2; go_ret; exact ⟨rfl, (by repeat (first | exact Below.refl _ _ | assumption | refine Below.alloc ?_ (by first | exact Nat.le_refl _ | (simp; done) | (simp; omega) | omega) _ | refine Below.drew ?_ | refine Below.setCell ?_ (by first | exact Nat.le_refl _ | (simp; done) | (simp; omega) | omega) _ | refine below_call ?_ (by assumption) (by first | exact Nat.le_refl _ | (simp; done) | (simp; omega) | omega)))⟩)
    · rcases Int.lt_or_le ((s[0].toNat : Int) - 240) 8 with c2 | c2
      · have HB := hid (HR.out.trans (if_neg (show ¬ ((s[0].toNat : Int) - 240 < 0 ∨ 8 ≤ (s[0].toNat : Int) - 240) by omega))).symm
        clear HR
        go_wp2
        go_loop [9, 10] (fun v9 v10 => ∃ (j : Nat) (n : Int), v10 = .int .i64 j ∧ v9 = .int .i64 n ∧ 1 ≤ j ∧ j ≤ 4 ∧ j ≤ s.size ∧ 0 ≤ n ∧ ((j = 1 ∧ n < 128) ∨ (j = 2 ∧ n < 8192) ∨ (j = 3 ∧ n < 524288) ∨ (j = 4 ∧ n < 33554432)) ∧ Hid (bl 65536 1114112 (4 - j) n ((ns s).drop j) = bl 65536 1114112 3 ((s[0].toNat : Int) - 240) ((ns s).drop 1))) (fun _ v10 => (4 - intOf v10).toNat)
        case atStart => exact ⟨1, _, by go_num, rfl, by omega, by omega, hp, by omega, by omega, hid (by simp)⟩
        case round =>
          obtain ⟨j, n, rfl, rfl, j1, j2, j3, n0, hn, HJ⟩ := hrel
          have HJ2 := hid (HJ.out.trans HB.out)
          have nb : n < 33554432 := by omega
          by_cases hj : j < 4
          · have nb2 : n ≤ 10000000 := by omega
            obtain ⟨k, hk⟩ : ∃ k, 4 - j = k + 1 := ⟨4 - j - 1, by omega⟩
            by_cases hjs : j < s.size
            · have hx0 : (0 : Int) ≤ (s[j].toNat : Int) := by omega
              have hx1 : ((s[j].toNat : Nat) : Int) < 256 := by have := s[j].toNat_lt; omega
              have HX := hid (show (if (s[j].toNat : Int) - 128 < 0 ∨ 63 < (s[j].toNat : Int) - 128 then false else bl 65536 1114112 k (64 * n + ((s[j].toNat : Int) - 128)) ((ns s).drop (j + 1))) = bl 65536 1114112 (4 - j) n ((ns s).drop j) by rw [hk, ns_drop s j hjs, bl])
              have HN := hid hn
              have HK := hid hk
              clear hn hk
              rcases Int.lt_or_le ((s[j].toNat : Int) - 128) 0 with d1 | d1
              · have HV := hid ((HX.out.trans HJ2.out).symm.trans (if_pos (.inl d1)))
                go_wp2
                all_goals go_ret
                all_goals exact ⟨ret_bool (by first | rfl | exact HV.out.symm), (by repeat (first | exact Below.refl _ _ | assumption | refine Below.alloc ?_ (by first | exact Nat.le_refl _ | (simp; done) | (simp; omega) | omega) _ | refine Below.drew ?_ | refine Below.setCell ?_ (by first | exact Nat.le_refl _ | (simp; done) | (simp; omega) | omega) _ | refine below_call ?_ (by assumption) (by first | exact Nat.le_refl _ | (simp; done) | (simp; omega) | omega)))⟩
              · rcases Int.lt_or_le 63 ((s[j].toNat : Int) - 128) with d2 | d2
                · have HV := hid ((HX.out.trans HJ2.out).symm.trans (if_pos (.inr d2)))
                  go_wp2
                  all_goals go_ret
                  all_goals exact ⟨ret_bool (by first | rfl | exact HV.out.symm), (by repeat (first | exact Below.refl _ _ | assumption | refine Below.alloc ?_ (by first | exact Nat.le_refl _ | (simp; done) | (simp; omega) | omega) _ | refine Below.drew ?_ | refine Below.setCell ?_ (by first | exact Nat.le_refl _ | (simp; done) | (simp; omega) | omega) _ | refine below_call ?_ (by assumption) (by first | exact Nat.le_refl _ | (simp; done) | (simp; omega) | omega)))⟩
                · have HV := hid ((if_neg (show ¬ ((s[j].toNat : Int) - 128 < 0 ∨ 63 < (s[j].toNat : Int) - 128) by omega)).symm.trans (HX.out.trans HJ.out))
                  go_wp2
                  refine ⟨⟨j + 1, _, by go_num, rfl, by omega, by omega, by omega, by omega, by have := HN.out; omega, hid ?_⟩, by simp [intOf]; omega⟩
                  rw [← HV.out]
                  congr 1
                  have := HK.out; omega
            · have HV := hid (show anyB n (64 ^ (k + 1)) 65536 1114112 = bl 65536 1114112 (4 - j) n ((ns s).drop j) by rw [hk, List.drop_eq_nil_of_le (by rw [ns_len]; omega), bl])
              have HE := hid (show ((4 : Int) - (j : Int)).toNat = k + 1 by omega)
              have HE2 := hid hk
              clear hn hk
              go_wp2_with (first | (go_at_call 36; ((with_reducible refine (any_walk n (4 - j) 65536 1114112 _ n0 nb2 (by omega) (by omega) (by omega) (by omega) (by omega) (by omega)).mono ?_); rintro e w' ⟨rfl, hb⟩)))
              go_ret
              exact ⟨ret_bool (by first | (rw [HE.out]; exact HV.out.trans HJ2.out) | (rw [HE2.out]; exact HV.out.trans HJ2.out)), (by repeat (first | exact Below.refl _ _ | assumption | refine Below.alloc ?_ (by first | exact Nat.le_refl _ | (simp; done) | (simp; omega) | omega) _ | refine Below.drew ?_ | refine Below.setCell ?_ (by first | exact Nat.le_refl _ | (simp; done) | (simp; omega) | omega) _ | refine below_call ?_ (by assumption) (by first | exact Nat.le_refl _ | (simp; done) | (simp; omega) | omega)))⟩
          · have hj2 : j = 4 := by omega
            have HV := hid (show (decide (65536 ≤ n) && decide (n < 1114112) && isB n) = bl 65536 1114112 (4 - j) n ((ns s).drop j) by rw [hj2]; rfl)
            clear hn hj2
            go_wp2_with (first | (go_at_call 25; ((with_reducible refine (is_walk n _).mono ?_); rintro e w' ⟨rfl, hb⟩)))
            all_goals
              go_ret
              exact ⟨ret_bool (by first | (rw [← HJ2.out, ← HV.out]; done) | (rw [← HJ2.out, ← HV.out]; simp [*]; done) | (rw [← HJ2.out, ← HV.out]; simp [*]; intros; omega) | (rw [← HJ2.out, ← HV.out]; simp; intros; omega)), (by repeat (first | exact Below.refl _ _ | assumption | refine Below.alloc ?_ (by first | exact Nat.le_refl _ | (simp; done) | (simp; omega) | omega) _ | refine Below.drew ?_ | refine Below.setCell ?_ (by first | exact Nat.le_refl _ | (simp; done) | (simp; omega) | omega) _ | refine below_call ?_ (by assumption) (by first | exact Nat.le_refl _ | (simp; done) | (simp; omega) | omega)))⟩
      · first
          | (exfalso; have := HR.out; rw [if_pos (.inr c2)] at this; cases this; done)
          | (clear HR; go_wp2; go_ret; exact ⟨rfl, (by repeat (first | exact Below.refl _ _ | assumption | refine Below.alloc ?_ (by first | exact Nat.le_refl _ | (simp; done) | (simp; omega) | omega) _ | refine Below.drew ?_ | refine Below.setCell ?_ (by first | exact Nat.le_refl _ | (simp; done) | (simp; omega) | omega) _ | refine below_call ?_ (by assumption) (by first | exact Nat.le_refl _ | (simp; done) | (simp; omega) | omega)))⟩)

end Go.Proofs.Ytlpocahflolmpaa
