/- Some texts of this seat in one. -/
import Derived.Test.YtiohiiekaofkbaaZU
/- The reference: does a sign of so many bytes begin so? -/
namespace Go.Proofs.Ytiohiiekaofkbaa
set_option linter.unusedVariables false
set_option linter.unusedSimpArgs false
open Go.RowKit

/-- behind some bytes of a sign: k bytes more -/
def bl (least most : Int) : Nat → Int → List Int → Bool
  | 0, n, _ => decide (least ≤ n) && decide (n < most) && isB n
  | k + 1, n, [] => anyB n (64 ^ (k + 1)) least most
  | k + 1, n, x :: t => if x - 128 < 0 ∨ 63 < x - 128 then false else bl least most k (64 * n + (x - 128)) t
def begG (head room least most : Int) (k : Nat) : List Int → Bool
  | [] => false
  | a :: t => if a - head < 0 ∨ room ≤ a - head then false else bl least most k (a - head) t
/-- does a sign of so many bytes begin so? -/
def begT (size : Int) (l : List Int) : Bool :=
  if size = 1 then begG 0 128 0 128 0 l else if size = 2 then begG 192 32 128 2048 1 l else if size = 3 then begG 224 16 2048 65536 2 l else begG 240 8 65536 1114112 3 l

end Go.Proofs.Ytiohiiekaofkbaa

/- The reference: does a sign of 1 bytes begin so? -/
namespace Go.Proofs.Ytiohiiekaofkbaa
set_option linter.unusedVariables false
set_option linter.unusedSimpArgs false
open Go.RowKit

set_option maxRecDepth 100000 in
set_option maxHeartbeats 8000000 in
theorem begins_1 (s : ByteArray) (w : World) (hs : s.size ≤ 140737488351232) (hp : 0 < s.size) :
    Calls Try.prog 40 #[.string s, .int .i64 1] w (fun e w' => e = .returned (.bool (begG 0 128 0 128 0 (ns s))) ∧ Below w.heap.size w w') := by
  have hR : begG 0 128 0 128 0 (ns s) = if (s[0].toNat : Int) - 0 < 0 ∨ 128 ≤ (s[0].toNat : Int) - 0 then false else bl 0 128 0 ((s[0].toNat : Int) - 0) ((ns s).drop 1) := by
    have h1 := ns_drop s 0 hp
    simp only [List.drop_zero, Nat.zero_add] at h1
    have h2 := congrArg (begG 0 128 0 128 0) h1
    rw [h2]
    rfl
  have hb1 : ((s[0].toNat : Nat) : Int) < 256 := by have := s[0].toNat_lt; omega
  have hb0 : (0 : Int) ≤ (s[0].toNat : Int) := by omega
  rcases hR0 : begG 0 128 0 128 0 (ns s) with _ | _
  all_goals
    rw [hR0] at hR
    have HR := hid hR
    clear hR hR0
    go_enter Try.func40, Try.ntmps40
    rcases Int.lt_or_le ((s[0].toNat : Int) - 0) 0 with c1 | c1
    · first
        | (exfalso; omega)
        | (exfalso; have := HR.out; rw [if_pos (.inl c1)] at this; cases this; done)
        | (clear HR; go_wp2; go_ret; exact ⟨rfl, (by repeat (first | exact Below.refl _ _ | assumption | refine Below.alloc ?_ (by first | exact Nat.le_refl _ | (simp; done) | (simp; omega) | omega) _ | refine Below.drew ?_ | refine Below.setCell ?_ (by first | exact Nat.le_refl _ | (simp; done) | (simp; omega) | omega) _ | refine below_call ?_ (by assumption) (by first | exact Nat.le_refl _ | (simp; done) | (simp; omega) | omega)))⟩)
    · rcases Int.lt_or_le ((s[0].toNat : Int) - 0) 128 with c2 | c2
      · have HB := hid (HR.out.trans (if_neg (show ¬ ((s[0].toNat : Int) - 0 < 0 ∨ 128 ≤ (s[0].toNat : Int) - 0) by omega))).symm
        clear HR
        go_wp2
        go_loop [9, 10] (fun v9 v10 => ∃ (j : Nat) (n : Int), v10 = .int .i64 j ∧ v9 = .int .i64 n ∧ 1 ≤ j ∧ j ≤ 1 ∧ j ≤ s.size ∧ 0 ≤ n ∧ ((j = 1 ∧ n < 128) ∨ (j = 2 ∧ n < 8192) ∨ (j = 3 ∧ n < 524288) ∨ (j = 4 ∧ n < 33554432)) ∧ Hid (bl 0 128 (1 - j) n ((ns s).drop j) = bl 0 128 0 ((s[0].toNat : Int) - 0) ((ns s).drop 1))) (fun _ v10 => (1 - intOf v10).toNat)
        case atStart => exact ⟨1, _, by go_num, rfl, by omega, by omega, hp, by omega, by omega, hid (by simp)⟩
        case round =>
          obtain ⟨j, n, rfl, rfl, j1, j2, j3, n0, hn, HJ⟩ := hrel
          have HJ2 := hid (HJ.out.trans HB.out)
          have nb : n < 33554432 := by omega
          by_cases hj : j < 1
          · exfalso; omega
          · have hj2 : j = 1 := by omega
            have HV := hid (show (decide (0 ≤ n) && decide (n < 128) && isB n) = bl 0 128 (1 - j) n ((ns s).drop j) by rw [hj2]; rfl)
            clear hn hj2
            go_wp2_with (first | (go_at_call 44; ((with_reducible refine (is_walk n _).mono ?_); rintro e w' ⟨rfl, hb⟩)))
            all_goals
              go_ret
              exact ⟨ret_bool (by first | (rw [← HJ2.out, ← HV.out]; done) | (rw [← HJ2.out, ← HV.out]; simp [*]; done) | (rw [← HJ2.out, ← HV.out]; simp [*]; intros; omega) | (rw [← HJ2.out, ← HV.out]; simp; intros; omega)), (by repeat (first | exact Below.refl _ _ | assumption | refine Below.alloc ?_ (by first | exact Nat.le_refl _ | (simp; done) | (simp; omega) | omega) _ | refine Below.drew ?_ | refine Below.setCell ?_ (by first | exact Nat.le_refl _ | (simp; done) | (simp; omega) | omega) _ | refine below_call ?_ (by assumption) (by first | exact Nat.le_refl _ | (simp; done) | (simp; omega) | omega)))⟩
      · first
          | (exfalso; have := HR.out; rw [if_pos (.inr c2)] at this; cases this; done)
          | (clear HR; go_wp2; go_ret; exact ⟨rfl, (by repeat (first | exact Below.refl _ _ | assumption | refine Below.alloc ?_ (by first | exact Nat.le_refl _ | (simp; done) | (simp; omega) | omega) _ | refine Below.drew ?_ | refine Below.setCell ?_ (by first | exact Nat.le_refl _ | (simp; done) | (simp; omega) | omega) _ | refine below_call ?_ (by assumption) (by first | exact Nat.le_refl _ | (simp; done) | (simp; omega) | omega)))⟩)

end Go.Proofs.Ytiohiiekaofkbaa

/- The reference: does a sign of 2 bytes begin so? -/
namespace Go.Proofs.Ytiohiiekaofkbaa
set_option linter.unusedVariables false
set_option linter.unusedSimpArgs false
open Go.RowKit

set_option maxRecDepth 100000 in
set_option maxHeartbeats 8000000 in
theorem begins_2 (s : ByteArray) (w : World) (hs : s.size ≤ 140737488351232) (hp : 0 < s.size) :
    Calls Try.prog 40 #[.string s, .int .i64 2] w (fun e w' => e = .returned (.bool (begG 192 32 128 2048 1 (ns s))) ∧ Below w.heap.size w w') := by
  have hR : begG 192 32 128 2048 1 (ns s) = if (s[0].toNat : Int) - 192 < 0 ∨ 32 ≤ (s[0].toNat : Int) - 192 then false else bl 128 2048 1 ((s[0].toNat : Int) - 192) ((ns s).drop 1) := by
    have h1 := ns_drop s 0 hp
    simp only [List.drop_zero, Nat.zero_add] at h1
    have h2 := congrArg (begG 192 32 128 2048 1) h1
    rw [h2]
    rfl
  have hb1 : ((s[0].toNat : Nat) : Int) < 256 := by have := s[0].toNat_lt; omega
  have hb0 : (0 : Int) ≤ (s[0].toNat : Int) := by omega
  rcases hR0 : begG 192 32 128 2048 1 (ns s) with _ | _
  all_goals
    rw [hR0] at hR
    have HR := hid hR
    clear hR hR0
    go_enter Try.func40, Try.ntmps40
    rcases Int.lt_or_le ((s[0].toNat : Int) - 192) 0 with c1 | c1
    · first
        | (exfalso; omega)
        | (exfalso; have := HR.out; rw [if_pos (.inl c1)] at this; cases this; done)
        | (clear HR; go_wp2; go_ret; exact ⟨rfl, (by repeat (first | exact Below.refl _ _ | assumption | refine Below.alloc ?_ (by first | exact Nat.le_refl _ | (simp; done) | (simp; omega) | omega) _ | refine Below.drew ?_ | refine Below.setCell ?_ (by first | exact Nat.le_refl _ | (simp; done) | (simp; omega) | omega) _ | refine below_call ?_ (by assumption) (by first | exact Nat.le_refl _ | (simp; done) | (simp; omega) | omega)))⟩)
    · rcases Int.lt_or_le ((s[0].toNat : Int) - 192) 32 with c2 | c2
      · have HB := hid (HR.out.trans (if_neg (show ¬ ((s[0].toNat : Int) - 192 < 0 ∨ 32 ≤ (s[0].toNat : Int) - 192) by omega))).symm
        clear HR
        go_wp2
        go_loop [9, 10] (fun v9 v10 => ∃ (j : Nat) (n : Int), v10 = .int .i64 j ∧ v9 = .int .i64 n ∧ 1 ≤ j ∧ j ≤ 2 ∧ j ≤ s.size ∧ 0 ≤ n ∧ ((j = 1 ∧ n < 128) ∨ (j = 2 ∧ n < 8192) ∨ (j = 3 ∧ n < 524288) ∨ (j = 4 ∧ n < 33554432)) ∧ Hid (bl 128 2048 (2 - j) n ((ns s).drop j) = bl 128 2048 1 ((s[0].toNat : Int) - 192) ((ns s).drop 1))) (fun _ v10 => (2 - intOf v10).toNat)
        case atStart => exact ⟨1, _, by go_num, rfl, by omega, by omega, hp, by omega, by omega, hid (by simp)⟩
        case round =>
          obtain ⟨j, n, rfl, rfl, j1, j2, j3, n0, hn, HJ⟩ := hrel
          have HJ2 := hid (HJ.out.trans HB.out)
          have nb : n < 33554432 := by omega
          by_cases hj : j < 2
          · have nb2 : n ≤ 10000000 := by omega
            obtain ⟨k, hk⟩ : ∃ k, 2 - j = k + 1 := ⟨2 - j - 1, by omega⟩
            by_cases hjs : j < s.size
            · have hx0 : (0 : Int) ≤ (s[j].toNat : Int) := by omega
              have hx1 : ((s[j].toNat : Nat) : Int) < 256 := by have := s[j].toNat_lt; omega
              have HX := hid (show (if (s[j].toNat : Int) - 128 < 0 ∨ 63 < (s[j].toNat : Int) - 128 then false else bl 128 2048 k (64 * n + ((s[j].toNat : Int) - 128)) ((ns s).drop (j + 1))) = bl 128 2048 (2 - j) n ((ns s).drop j) by rw [hk, ns_drop s j hjs, bl])
              have HN := hid hn
              have HK := hid hk
              clear hn hk
              rcases Int.lt_or_le ((s[j].toNat : Int) - 128) 0 with d1 | d1
              · have HV := hid ((HX.out.trans HJ2.out).symm.trans (if_pos (.inl d1)))
                go_wp2
                all_goals go_ret
                all_goals exact ⟨ret_bool (by first | rfl | exact HV.out.symm), (by repeat (first | exact Below.refl _ _ | assumption | refine Below.alloc ?_ (by first | exact Nat.le_refl _ | (simp; done) | (simp; omega) | omega) _ | refine Below.drew ?_ | refine Below.setCell ?_ (by first | exact Nat.le_refl _ | (simp; done) | (simp; omega) | omega) _ | refine below_call ?_ (by assumption) (by first | exact Nat.le_refl _ | (simp; done) | (simp; omega) | omega)))⟩
              · rcases Int.lt_or_le 63 ((s[j].toNat : Int) - 128) with d2 | d2
                · have HV := hid ((HX.out.trans HJ2.out).symm.trans (if_pos (.inr d2)))
                  go_wp2
                  all_goals go_ret
                  all_goals exact ⟨ret_bool (by first | rfl | exact HV.out.symm), (by repeat (first | exact Below.refl _ _ | assumption | refine Below.alloc ?_ (by first | exact Nat.le_refl _ | (simp; done) | (simp; omega) | omega) _ | refine Below.drew ?_ | refine Below.setCell ?_ (by first | exact Nat.le_refl _ | (simp; done) | (simp; omega) | omega) _ | refine below_call ?_ (by assumption) (by first | exact Nat.le_refl _ | (simp; done) | (simp; omega) | omega)))⟩
                · have HV := hid ((if_neg (show ¬ ((s[j].toNat : Int) - 128 < 0 ∨ 63 < (s[j].toNat : Int) - 128) by omega)).symm.trans (HX.out.trans HJ.out))
                  go_wp2
                  refine ⟨⟨j + 1, _, by go_num, rfl, by omega, by omega, by omega, by omega, by have := HN.out; omega, hid ?_⟩, by simp [intOf]; omega⟩
                  rw [← HV.out]
                  congr 1
                  have := HK.out; omega
            · have HV := hid (show anyB n (64 ^ (k + 1)) 128 2048 = bl 128 2048 (2 - j) n ((ns s).drop j) by rw [hk, List.drop_eq_nil_of_le (by rw [ns_len]; omega), bl])
              have HE := hid (show ((2 : Int) - (j : Int)).toNat = k + 1 by omega)
              have HE2 := hid hk
              clear hn hk
              go_wp2_with (first | (go_at_call 43; ((with_reducible refine (any_walk n (2 - j) 128 2048 _ n0 nb2 (by omega) (by omega) (by omega) (by omega) (by omega) (by omega)).mono ?_); rintro e w' ⟨rfl, hb⟩)))
              go_ret
              exact ⟨ret_bool (by first | (rw [HE.out]; exact HV.out.trans HJ2.out) | (rw [HE2.out]; exact HV.out.trans HJ2.out)), (by repeat (first | exact Below.refl _ _ | assumption | refine Below.alloc ?_ (by first | exact Nat.le_refl _ | (simp; done) | (simp; omega) | omega) _ | refine Below.drew ?_ | refine Below.setCell ?_ (by first | exact Nat.le_refl _ | (simp; done) | (simp; omega) | omega) _ | refine below_call ?_ (by assumption) (by first | exact Nat.le_refl _ | (simp; done) | (simp; omega) | omega)))⟩
          · have hj2 : j = 2 := by omega
            have HV := hid (show (decide (128 ≤ n) && decide (n < 2048) && isB n) = bl 128 2048 (2 - j) n ((ns s).drop j) by rw [hj2]; rfl)
            clear hn hj2
            go_wp2_with (first | (go_at_call 44; ((with_reducible refine (is_walk n _).mono ?_); rintro e w' ⟨rfl, hb⟩)))
            all_goals
              go_ret
              exact ⟨ret_bool (by first | (rw [← HJ2.out, ← HV.out]; done) | (rw [← HJ2.out, ← HV.out]; simp [*]; done) | (rw [← HJ2.out, ← HV.out]; simp [*]; intros; omega) | (rw [← HJ2.out, ← HV.out]; simp; intros; omega)), (by repeat (first | exact Below.refl _ _ | assumption | refine Below.alloc ?_ (by first | exact Nat.le_refl _ | (simp; done) | (simp; omega) | omega) _ | refine Below.drew ?_ | refine Below.setCell ?_ (by first | exact Nat.le_refl _ | (simp; done) | (simp; omega) | omega) _ | refine below_call ?_ (by assumption) (by first | exact Nat.le_refl _ | (simp; done) | (simp; omega) | omega)))⟩
      · first
          | (exfalso; have := HR.out; rw [if_pos (.inr c2)] at this; cases this; done)
          | (clear HR; go_wp2; go_ret; exact ⟨rfl, (by repeat (first | exact Below.refl _ _ | assumption | refine Below.alloc ?_ (by first | exact Nat.le_refl _ | (simp; done) | (simp; omega) | omega) _ | refine Below.drew ?_ | refine Below.setCell ?_ (by first | exact Nat.le_refl _ | (simp; done) | (simp; omega) | omega) _ | refine below_call ?_ (by assumption) (by first | exact Nat.le_refl _ | (simp; done) | (simp; omega) | omega)))⟩)

end Go.Proofs.Ytiohiiekaofkbaa

/- The reference: does a sign of 3 bytes begin so? -/
namespace Go.Proofs.Ytiohiiekaofkbaa
set_option linter.unusedVariables false
set_option linter.unusedSimpArgs false
open Go.RowKit

set_option maxRecDepth 100000 in
set_option maxHeartbeats 8000000 in
theorem begins_3 (s : ByteArray) (w : World) (hs : s.size ≤ 140737488351232) (hp : 0 < s.size) :
    Calls Try.prog 40 #[.string s, .int .i64 3] w (fun e w' => e = .returned (.bool (begG 224 16 2048 65536 2 (ns s))) ∧ Below w.heap.size w w') := by
  have hR : begG 224 16 2048 65536 2 (ns s) = if (s[0].toNat : Int) - 224 < 0 ∨ 16 ≤ (s[0].toNat : Int) - 224 then false else bl 2048 65536 2 ((s[0].toNat : Int) - 224) ((ns s).drop 1) := by
    have h1 := ns_drop s 0 hp
    simp only [List.drop_zero, Nat.zero_add] at h1
    have h2 := congrArg (begG 224 16 2048 65536 2) h1
    rw [h2]
    rfl
  have hb1 : ((s[0].toNat : Nat) : Int) < 256 := by have := s[0].toNat_lt; omega
  have hb0 : (0 : Int) ≤ (s[0].toNat : Int) := by omega
  rcases hR0 : begG 224 16 2048 65536 2 (ns s) with _ | _
  all_goals
    rw [hR0] at hR
    have HR := hid hR
    clear hR hR0
    go_enter Try.func40, Try.ntmps40
    rcases Int.lt_or_le ((s[0].toNat : Int) - 224) 0 with c1 | c1
    · first
        | (exfalso; omega)
        | (exfalso; have := HR.out; rw [if_pos (.inl c1)] at this; cases this; done)
        | (clear HR; go_wp2; go_ret; exact ⟨rfl, (by repeat (first | exact Below.refl _ _ | assumption | refine Below.alloc ?_ (by first | exact Nat.le_refl _ | (simp; done) | (simp; omega) | omega) _ | refine Below.drew ?_ | refine Below.setCell ?_ (by first | exact Nat.le_refl _ | (simp; done) | (simp; omega) | omega) _ | refine below_call ?_ (by assumption) (by first | exact Nat.le_refl _ | (simp; done) | (simp; omega) | omega)))⟩)
    · rcases Int.lt_or_le ((s[0].toNat : Int) - 224) 16 with c2 | c2
      · have HB := hid (HR.out.trans (if_neg (show ¬ ((s[0].toNat : Int) - 224 < 0 ∨ 16 ≤ (s[0].toNat : Int) - 224) by omega))).symm
        clear HR
        go_wp2
        go_loop [9, 10] (fun v9 v10 => ∃ (j : Nat) (n : Int), v10 = .int .i64 j ∧ v9 = .int .i64 n ∧ 1 ≤ j ∧ j ≤ 3 ∧ j ≤ s.size ∧ 0 ≤ n ∧ ((j = 1 ∧ n < 128) ∨ (j = 2 ∧ n < 8192) ∨ (j = 3 ∧ n < 524288) ∨ (j = 4 ∧ n < 33554432)) ∧ Hid (bl 2048 65536 (3 - j) n ((ns s).drop j) = bl 2048 65536 2 ((s[0].toNat : Int) - 224) ((ns s).drop 1))) (fun _ v10 => (3 - intOf v10).toNat)
        case atStart => exact ⟨1, _, by go_num, rfl, by omega, by omega, hp, by omega, by omega, hid (by simp)⟩
        case round =>
          obtain ⟨j, n, rfl, rfl, j1, j2, j3, n0, hn, HJ⟩ := hrel
          have HJ2 := hid (HJ.out.trans HB.out)
          have nb : n < 33554432 := by omega
          by_cases hj : j < 3
          · have nb2 : n ≤ 10000000 := by omega
            obtain ⟨k, hk⟩ : ∃ k, 3 - j = k + 1 := ⟨3 - j - 1, by omega⟩
            by_cases hjs : j < s.size
            · have hx0 : (0 : Int) ≤ (s[j].toNat : Int) := by omega
              have hx1 : ((s[j].toNat : Nat) : Int) < 256 := by have := s[j].toNat_lt; omega
              have HX := hid (show (if (s[j].toNat : Int) - 128 < 0 ∨ 63 < (s[j].toNat : Int) - 128 then false else bl 2048 65536 k (64 * n + ((s[j].toNat : Int) - 128)) ((ns s).drop (j + 1))) = bl 2048 65536 (3 - j) n ((ns s).drop j) by rw [hk, ns_drop s j hjs, bl])
              have HN := hid hn
              have HK := hid hk
              clear hn hk
              rcases Int.lt_or_le ((s[j].toNat : Int) - 128) 0 with d1 | d1
              · have HV := hid ((HX.out.trans HJ2.out).symm.trans (if_pos (.inl d1)))
                go_wp2
                all_goals go_ret
                all_goals exact ⟨ret_bool (by first | rfl | exact HV.out.symm), (by repeat (first | exact Below.refl _ _ | assumption | refine Below.alloc ?_ (by first | exact Nat.le_refl _ | (simp; done) | (simp; omega) | omega) _ | refine Below.drew ?_ | refine Below.setCell ?_ (by first | exact Nat.le_refl _ | (simp; done) | (simp; omega) | omega) _ | refine below_call ?_ (by assumption) (by first | exact Nat.le_refl _ | (simp; done) | (simp; omega) | omega)))⟩
              · rcases Int.lt_or_le 63 ((s[j].toNat : Int) - 128) with d2 | d2
                · have HV := hid ((HX.out.trans HJ2.out).symm.trans (if_pos (.inr d2)))
                  go_wp2
                  all_goals go_ret
                  all_goals exact ⟨ret_bool (by first | rfl | exact HV.out.symm), (by repeat (first | exact Below.refl _ _ | assumption | refine Below.alloc ?_ (by first | exact Nat.le_refl _ | (simp; done) | (simp; omega) | omega) _ | refine Below.drew ?_ | refine Below.setCell ?_ (by first | exact Nat.le_refl _ | (simp; done) | (simp; omega) | omega) _ | refine below_call ?_ (by assumption) (by first | exact Nat.le_refl _ | (simp; done) | (simp; omega) | omega)))⟩
                · have HV := hid ((if_neg (show ¬ ((s[j].toNat : Int) - 128 < 0 ∨ 63 < (s[j].toNat : Int) - 128) by omega)).symm.trans (HX.out.trans HJ.out))
                  go_wp2
                  refine ⟨⟨j + 1, _, by go_num, rfl, by omega, by omega, by omega, by omega, by have := HN.out; omega, hid ?_⟩, by simp [intOf]; omega⟩
                  rw [← HV.out]
                  congr 1
                  have := HK.out; omega
            · have HV := hid (show anyB n (64 ^ (k + 1)) 2048 65536 = bl 2048 65536 (3 - j) n ((ns s).drop j) by rw [hk, List.drop_eq_nil_of_le (by rw [ns_len]; omega), bl])
              have HE := hid (show ((3 : Int) - (j : Int)).toNat = k + 1 by omega)
              have HE2 := hid hk
              clear hn hk
              go_wp2_with (first | (go_at_call 43; ((with_reducible refine (any_walk n (3 - j) 2048 65536 _ n0 nb2 (by omega) (by omega) (by omega) (by omega) (by omega) (by omega)).mono ?_); rintro e w' ⟨rfl, hb⟩)))
              go_ret
              exact ⟨ret_bool (by first | (rw [HE.out]; exact HV.out.trans HJ2.out) | (rw [HE2.out]; exact HV.out.trans HJ2.out)), (by repeat (first | exact Below.refl _ _ | assumption | refine Below.alloc ?_ (by first | exact Nat.le_refl _ | (simp; done) | (simp; omega) | omega) _ | refine Below.drew ?_ | refine Below.setCell ?_ (by first | exact Nat.le_refl _ | (simp; done) | (simp; omega) | omega) _ | refine below_call ?_ (by assumption) (by first | exact Nat.le_refl _ | (simp; done) | (simp; omega) | omega)))⟩
          · have hj2 : j = 3 := by omega
            have HV := hid (show (decide (2048 ≤ n) && decide (n < 65536) && isB n) = bl 2048 65536 (3 - j) n ((ns s).drop j) by rw [hj2]; rfl)
            clear hn hj2
            go_wp2_with (first | (go_at_call 44; ((with_reducible refine (is_walk n _).mono ?_); rintro e w' ⟨rfl, hb⟩)))
            all_goals
              go_ret
              exact ⟨ret_bool (by first | (rw [← HJ2.out, ← HV.out]; done) | (rw [← HJ2.out, ← HV.out]; simp [*]; done) | (rw [← HJ2.out, ← HV.out]; simp [*]; intros; omega) | (rw [← HJ2.out, ← HV.out]; simp; intros; omega)), (by repeat (first | exact Below.refl _ _ | assumption | refine Below.alloc ?_ (by first | exact Nat.le_refl _ | (simp; done) | (simp; omega) | omega) _ | refine Below.drew ?_ | refine Below.setCell ?_ (by first | exact Nat.le_refl _ | (simp; done) | (simp; omega) | omega) _ | refine below_call ?_ (by assumption) (by first | exact Nat.le_refl _ | (simp; done) | (simp; omega) | omega)))⟩
      · first
          | (exfalso; have := HR.out; rw [if_pos (.inr c2)] at this; cases this; done)
          | (clear HR; go_wp2; go_ret; exact ⟨rfl, (by repeat (first | exact Below.refl _ _ | assumption | refine Below.alloc ?_ (by first | exact Nat.le_refl _ | (simp; done) | (simp; omega) | omega) _ | refine Below.drew ?_ | refine Below.setCell ?_ (by first | exact Nat.le_refl _ | (simp; done) | (simp; omega) | omega) _ | refine below_call ?_ (by assumption) (by first | exact Nat.le_refl _ | (simp; done) | (simp; omega) | omega)))⟩)

end Go.Proofs.Ytiohiiekaofkbaa

/- The reference: does a sign of 4 bytes begin so? -/
namespace Go.Proofs.Ytiohiiekaofkbaa
set_option linter.unusedVariables false
set_option linter.unusedSimpArgs false
open Go.RowKit

set_option maxRecDepth 100000 in
set_option maxHeartbeats 8000000 in
theorem begins_4 (s : ByteArray) (w : World) (hs : s.size ≤ 140737488351232) (hp : 0 < s.size) :
    Calls Try.prog 40 #[.string s, .int .i64 4] w (fun e w' => e = .returned (.bool (begG 240 8 65536 1114112 3 (ns s))) ∧ Below w.heap.size w w') := by
  have hR : begG 240 8 65536 1114112 3 (ns s) = if (s[0].toNat : Int) - 240 < 0 ∨ 8 ≤ (s[0].toNat : Int) - 240 then false else bl 65536 1114112 3 ((s[0].toNat : Int) - 240) ((ns s).drop 1) := by
    have h1 := ns_drop s 0 hp
    simp only [List.drop_zero, Nat.zero_add] at h1
    have h2 := congrArg (begG 240 8 65536 1114112 3) h1
    rw [h2]
    rfl
  have hb1 : ((s[0].toNat : Nat) : Int) < 256 := by have := s[0].toNat_lt; omega
  have hb0 : (0 : Int) ≤ (s[0].toNat : Int) := by omega
  rcases hR0 : begG 240 8 65536 1114112 3 (ns s) with _ | _
  all_goals
    rw [hR0] at hR
    have HR := hid hR
    clear hR hR0
    go_enter Try.func40, Try.ntmps40
    rcases Int.lt_or_le ((s[0].toNat : Int) - 240) 0 with c1 | c1
    · first
        | (exfalso; omega)
        | (exfalso; have := HR.out; rw [if_pos (.inl c1)] at this; cases this; done)
        | (clear HR; go_wp2; go_ret; exact ⟨rfl, (by repeat (first | exact Below.refl _ _ | assumption | refine Below.alloc ?_ (by first | exact Nat.le_refl _ | (simp; done) | (simp; omega) | omega) _ | refine Below.drew ?_ | refine Below.setCell ?_ (by first | exact Nat.le_refl _ | (simp; done) | (simp; omega) | omega) _ | refine below_call ?_ (by assumption) (by first | exact Nat.le_refl _ | (simp; done) | (simp; omega) | omega)))⟩)
    · rcases Int.lt_or_le ((s[0].toNat : Int) - 240) 8 with c2 | c2
      · have HB := hid (HR.out.trans (if_neg (show ¬ ((s[0].toNat : Int) - 240 < 0 ∨ 8 ≤ (s[0].toNat : Int) - 240) by omega))).symm
        clear HR
        go_wp2
        go_loop [9, 10] (fun v9 v10 => ∃ (j : Nat) (n : Int), v10 = .int .i64 j ∧ v9 = .int .i64 n ∧ 1 ≤ j ∧ j ≤ 4 ∧ j ≤ s.size ∧ 0 ≤ n ∧ ((j = 1 ∧ n < 128) ∨ (j = 2 ∧ n < 8192) ∨ (j = 3 ∧ n < 524288) ∨ (j = 4 ∧ n < 33554432)) ∧ Hid (bl 65536 1114112 (4 - j) n ((ns s).drop j) = bl 65536 1114112 3 ((s[0].toNat : Int) - 240) ((ns s).drop 1))) (fun _ v10 => (4 - intOf v10).toNat)
        case atStart => exact ⟨1, _, by go_num, rfl, by omega, by omega, hp, by omega, by omega, hid (by simp)⟩
        case round =>
          obtain ⟨j, n, rfl, rfl, j1, j2, j3, n0, hn, HJ⟩ := hrel
          have HJ2 := hid (HJ.out.trans HB.out)
          have nb : n < 33554432 := by omega
          by_cases hj : j < 4
          · have nb2 : n ≤ 10000000 := by omega
            obtain ⟨k, hk⟩ : ∃ k, 4 - j = k + 1 := ⟨4 - j - 1, by omega⟩
            by_cases hjs : j < s.size
            · have hx0 : (0 : Int) ≤ (s[j].toNat : Int) := by omega
              have hx1 : ((s[j].toNat : Nat) : Int) < 256 := by have := s[j].toNat_lt; omega
              have HX := hid (show (if (s[j].toNat : Int) - 128 < 0 ∨ 63 < (s[j].toNat : Int) - 128 then false else bl 65536 1114112 k (64 * n + ((s[j].toNat : Int) - 128)) ((ns s).drop (j + 1))) = bl 65536 1114112 (4 - j) n ((ns s).drop j) by rw [hk, ns_drop s j hjs, bl])
              have HN := hid hn
              have HK := hid hk
              clear hn hk
              rcases Int.lt_or_le ((s[j].toNat : Int) - 128) 0 with d1 | d1
              · have HV := hid ((HX.out.trans HJ2.out).symm.trans (if_pos (.inl d1)))
                go_wp2
                all_goals go_ret
                all_goals exact ⟨ret_bool (by first | rfl | exact HV.out.symm), (by repeat (first | exact Below.refl _ _ | assumption | refine Below.alloc ?_ (by first | exact Nat.le_refl _ | (simp; done) | (simp; omega) | omega) _ | refine Below.drew ?_ | refine Below.setCell ?_ (by first | exact Nat.le_refl _ | (simp; done) | (simp; omega) | omega) _ | refine below_call ?_ (by assumption) (by first | exact Nat.le_refl _ | (simp; done) | (simp; omega) | omega)))⟩
              · rcases Int.lt_or_le 63 ((s[j].toNat : Int) - 128) with d2 | d2
                · have HV := hid ((HX.out.trans HJ2.out).symm.trans (if_pos (.inr d2)))
                  go_wp2
                  all_goals go_ret
                  all_goals exact ⟨ret_bool (by first | rfl | exact HV.out.symm), (by repeat (first | exact Below.refl _ _ | assumption | refine Below.alloc ?_ (by first | exact Nat.le_refl _ | (simp; done) | (simp; omega) | omega) _ | refine Below.drew ?_ | refine Below.setCell ?_ (by first | exact Nat.le_refl _ | (simp; done) | (simp; omega) | omega) _ | refine below_call ?_ (by assumption) (by first | exact Nat.le_refl _ | (simp; done) | (simp; omega) | omega)))⟩
                · have HV := hid ((if_neg (show ¬ ((s[j].toNat : Int) - 128 < 0 ∨ 63 < (s[j].toNat : Int) - 128) by omega)).symm.trans (HX.out.trans HJ.out))
                  go_wp2
                  refine ⟨⟨j + 1, _, by go_num, rfl, by omega, by omega, by omega, by omega, by have := HN.out; omega, hid ?_⟩, by simp [intOf]; omega⟩
                  rw [← HV.out]
                  congr 1
                  have := HK.out; omega
            · have HV := hid (show anyB n (64 ^ (k + 1)) 65536 1114112 = bl 65536 1114112 (4 - j) n ((ns s).drop j) by rw [hk, List.drop_eq_nil_of_le (by rw [ns_len]; omega), bl])
              have HE := hid (show ((4 : Int) - (j : Int)).toNat = k + 1 by omega)
              have HE2 := hid hk
              clear hn hk
              go_wp2_with (first | (go_at_call 43; ((with_reducible refine (any_walk n (4 - j) 65536 1114112 _ n0 nb2 (by omega) (by omega) (by omega) (by omega) (by omega) (by omega)).mono ?_); rintro e w' ⟨rfl, hb⟩)))
              go_ret
              exact ⟨ret_bool (by first | (rw [HE.out]; exact HV.out.trans HJ2.out) | (rw [HE2.out]; exact HV.out.trans HJ2.out)), (by repeat (first | exact Below.refl _ _ | assumption | refine Below.alloc ?_ (by first | exact Nat.le_refl _ | (simp; done) | (simp; omega) | omega) _ | refine Below.drew ?_ | refine Below.setCell ?_ (by first | exact Nat.le_refl _ | (simp; done) | (simp; omega) | omega) _ | refine below_call ?_ (by assumption) (by first | exact Nat.le_refl _ | (simp; done) | (simp; omega) | omega)))⟩
          · have hj2 : j = 4 := by omega
            have HV := hid (show (decide (65536 ≤ n) && decide (n < 1114112) && isB n) = bl 65536 1114112 (4 - j) n ((ns s).drop j) by rw [hj2]; rfl)
            clear hn hj2
            go_wp2_with (first | (go_at_call 44; ((with_reducible refine (is_walk n _).mono ?_); rintro e w' ⟨rfl, hb⟩)))
            all_goals
              go_ret
              exact ⟨ret_bool (by first | (rw [← HJ2.out, ← HV.out]; done) | (rw [← HJ2.out, ← HV.out]; simp [*]; done) | (rw [← HJ2.out, ← HV.out]; simp [*]; intros; omega) | (rw [← HJ2.out, ← HV.out]; simp; intros; omega)), (by repeat (first | exact Below.refl _ _ | assumption | refine Below.alloc ?_ (by first | exact Nat.le_refl _ | (simp; done) | (simp; omega) | omega) _ | refine Below.drew ?_ | refine Below.setCell ?_ (by first | exact Nat.le_refl _ | (simp; done) | (simp; omega) | omega) _ | refine below_call ?_ (by assumption) (by first | exact Nat.le_refl _ | (simp; done) | (simp; omega) | omega)))⟩
      · first
          | (exfalso; have := HR.out; rw [if_pos (.inr c2)] at this; cases this; done)
          | (clear HR; go_wp2; go_ret; exact ⟨rfl, (by repeat (first | exact Below.refl _ _ | assumption | refine Below.alloc ?_ (by first | exact Nat.le_refl _ | (simp; done) | (simp; omega) | omega) _ | refine Below.drew ?_ | refine Below.setCell ?_ (by first | exact Nat.le_refl _ | (simp; done) | (simp; omega) | omega) _ | refine below_call ?_ (by assumption) (by first | exact Nat.le_refl _ | (simp; done) | (simp; omega) | omega)))⟩)

end Go.Proofs.Ytiohiiekaofkbaa

/- Plain law: a sign of so many bytes begins so just if the package's own way says it has or lacks just so many. -/
namespace Go.Proofs.Ytiohiiekaofkbaa
set_option linter.unusedVariables false
set_option linter.unusedSimpArgs false
open Go.RowKit

theorem begins_any (s : ByteArray) (z : Int) (w : World) (hs : s.size ≤ 140737488351232) (hp : 0 < s.size) (z0 : 1 ≤ z) (z1 : z ≤ 4) :
    Calls Try.prog 40 #[.string s, .int .i64 z] w (fun e w' => e = .returned (.bool (begT z (ns s))) ∧ Below w.heap.size w w') := by
  rcases (show z = 1 ∨ z = 2 ∨ z = 3 ∨ z = 4 by omega) with rfl | rfl | rfl | rfl
  · exact begins_1 s w hs hp
  · exact begins_2 s w hs hp
  · exact begins_3 s w hs hp
  · exact begins_4 s w hs hp

theorem isB_iff (n : Int) : isB n = true ↔ 0 ≤ n ∧ n ≤ 1114111 ∧ (n < 55296 ∨ 57343 < n) := by simp [isB]

/-- the sign behind its first byte, written out -/
theorem sgnR_cons (b : Int) (t : List Int) : sgnR (b :: t) = if (leadR b).2.2.2 then sgnG (leadR b).1 (leadR b).2.1 (leadR b).2.2.1 1 t else (0, 0, false) := rfl

theorem any_iff (n p least most : Int) : anyB n p least most = true ↔
    (n * p < least ∧ ((¬ (55296 ≤ least ∧ least ≤ 57343) ∧ least ≤ n * p + p - 1 ∧ least ≤ most - 1) ∨ ((55296 ≤ least ∧ least ≤ 57343) ∧ 57344 ≤ n * p + p - 1 ∧ 57344 ≤ most - 1))) ∨
    (least ≤ n * p ∧ ((¬ (55296 ≤ n * p ∧ n * p ≤ 57343) ∧ n * p ≤ n * p + p - 1 ∧ n * p ≤ most - 1) ∨ ((55296 ≤ n * p ∧ n * p ≤ 57343) ∧ 57344 ≤ n * p + p - 1 ∧ 57344 ≤ most - 1))) := by
  simp only [anyB, decide_eq_true_iff]
  generalize n * p = q
  by_cases c1 : q < least
  · simp only [if_pos c1]
    by_cases c3 : 55296 ≤ least ∧ least ≤ 57343
    · simp only [if_pos c3]
      split <;> omega
    · simp only [if_neg c3]
      split <;> omega
  · simp only [if_neg c1]
    by_cases c3 : 55296 ≤ q ∧ q ≤ 57343
    · simp only [if_pos c3]
      split <;> omega
    · simp only [if_neg c3]
      split <;> omega

theorem begG_iff (head room least most : Int) (k : Nat) (a : Int) (t : List Int) : begG head room least most k (a :: t) = true ↔ head ≤ a ∧ a < head + room ∧ bl least most k (a - head) t = true := by
  simp only [begG]
  split
  · simp; omega
  · constructor
    · intro h; exact ⟨by omega, by omega, h⟩
    · intro h; exact h.2.2
theorem bl_zero (least most n : Int) (l : List Int) : bl least most 0 n l = true ↔ least ≤ n ∧ n < most ∧ 0 ≤ n ∧ n ≤ 1114111 ∧ (n < 55296 ∨ 57343 < n) := by
  cases l <;> simp [bl, isB, and_assoc]
theorem bl_nil (least most n : Int) (k : Nat) : bl least most (k + 1) n [] = anyB n (64 ^ (k + 1)) least most := rfl
theorem bl_cons (least most n : Int) (k : Nat) (x : Int) (t : List Int) : bl least most (k + 1) n (x :: t) = true ↔ 128 ≤ x ∧ x ≤ 191 ∧ bl least most k (64 * n + (x - 128)) t = true := by
  simp only [bl]
  split
  · simp; omega
  · constructor
    · intro h; exact ⟨by omega, by omega, h⟩
    · intro h; exact h.2.2

/-- it has and lacks so many together -/
def SP (z : Int) (r : Int × Int × Bool) : Prop := r.2.2 = true ∧ r.1 + r.2.1 = z
theorem SP_nil (z m lo hi n : Int) : SP z (sgnG m lo hi n []) ↔ m + 1 = z := by simp [SP, sgnG]; omega
theorem SP_cons (z m lo hi n x : Int) (t : List Int) : SP z (sgnG m lo hi n (x :: t)) ↔ (m < n ∧ m + 1 = z) ∨ (n ≤ m ∧ ¬ (n = 1 ∧ (x < lo ∨ hi < x)) ∧ 128 ≤ x ∧ x < 192 ∧ SP z (sgnG m lo hi (n + 1) t)) := by
  simp only [sgnG]
  split
  · simp only [SP, true_and]; omega
  · split
    · constructor
      · intro h; simp [SP] at h
      · intro h; omega
    · constructor
      · intro h; exact .inr ⟨by omega, by omega, by omega, by omega, h⟩
      · intro h
        rcases h with h | h
        · omega
        · exact h.2.2.2.2
theorem SP_end (z m lo hi n : Int) (l : List Int) (h : m < n) : SP z (sgnG m lo hi n l) ↔ m + 1 = z := by
  cases l with
  | nil => exact SP_nil z m lo hi n
  | cons x t => rw [SP_cons]; omega
theorem SP_none (z : Int) : SP z (0, 0, false) ↔ False := by simp [SP]

set_option maxHeartbeats 4000000 in
theorem beg1 (l : List Int) (hl : ∀ x ∈ l, 0 ≤ x ∧ x < 256) : begG 0 128 0 128 0 l = true ↔ SP 1 (sgnR l) := by
  cases l with
  | nil => simp [begG, sgnR, SP]
  | cons b t =>
    have hb := hl b (by simp)
    rw [sgnR_cons, begG_iff]
    rcases lead_cases b with ⟨h, e⟩ | ⟨h, e⟩ | ⟨h, e⟩ | ⟨h, e⟩ | ⟨h, e⟩ | ⟨h, e⟩ | ⟨h, e⟩ | ⟨h, e⟩ | ⟨h, e⟩
    all_goals
      rw [e]
      simp only [if_true, Bool.false_eq_true, if_false]
      rcases t with _ | ⟨c, _ | ⟨d, _ | ⟨x, u⟩⟩⟩
      all_goals
        simp only [bl_zero, bl_nil, bl_cons, any_iff, SP_nil, SP_cons, SP_none]
        try rw [SP_end _ _ _ _ _ _ (by decide)]
        try simp only [true_and, iff_false]
        omega

set_option maxHeartbeats 4000000 in
theorem beg2 (l : List Int) (hl : ∀ x ∈ l, 0 ≤ x ∧ x < 256) : begG 192 32 128 2048 1 l = true ↔ SP 2 (sgnR l) := by
  cases l with
  | nil => simp [begG, sgnR, SP]
  | cons b t =>
    have hb := hl b (by simp)
    rw [sgnR_cons, begG_iff]
    rcases lead_cases b with ⟨h, e⟩ | ⟨h, e⟩ | ⟨h, e⟩ | ⟨h, e⟩ | ⟨h, e⟩ | ⟨h, e⟩ | ⟨h, e⟩ | ⟨h, e⟩ | ⟨h, e⟩
    all_goals
      rw [e]
      simp only [if_true, Bool.false_eq_true, if_false]
      rcases t with _ | ⟨c, _ | ⟨d, _ | ⟨x, u⟩⟩⟩
      all_goals
        simp only [bl_zero, bl_nil, bl_cons, any_iff, SP_nil, SP_cons, SP_none]
        try rw [SP_end _ _ _ _ _ _ (by decide)]
        try simp only [true_and, iff_false]
        omega

set_option maxHeartbeats 4000000 in
theorem beg3 (l : List Int) (hl : ∀ x ∈ l, 0 ≤ x ∧ x < 256) : begG 224 16 2048 65536 2 l = true ↔ SP 3 (sgnR l) := by
  cases l with
  | nil => simp [begG, sgnR, SP]
  | cons b t =>
    have hb := hl b (by simp)
    rw [sgnR_cons, begG_iff]
    rcases lead_cases b with ⟨h, e⟩ | ⟨h, e⟩ | ⟨h, e⟩ | ⟨h, e⟩ | ⟨h, e⟩ | ⟨h, e⟩ | ⟨h, e⟩ | ⟨h, e⟩ | ⟨h, e⟩
    all_goals
      rw [e]
      simp only [if_true, Bool.false_eq_true, if_false]
      rcases t with _ | ⟨c, _ | ⟨d, _ | ⟨x, u⟩⟩⟩
      all_goals
        simp only [bl_zero, bl_nil, bl_cons, any_iff, SP_nil, SP_cons, SP_none]
        try rw [SP_end _ _ _ _ _ _ (by decide)]
        try simp only [true_and, iff_false]
        omega

set_option maxHeartbeats 4000000 in
theorem beg4 (l : List Int) (hl : ∀ x ∈ l, 0 ≤ x ∧ x < 256) : begG 240 8 65536 1114112 3 l = true ↔ SP 4 (sgnR l) := by
  cases l with
  | nil => simp [begG, sgnR, SP]
  | cons b t =>
    have hb := hl b (by simp)
    rw [sgnR_cons, begG_iff]
    rcases lead_cases b with ⟨h, e⟩ | ⟨h, e⟩ | ⟨h, e⟩ | ⟨h, e⟩ | ⟨h, e⟩ | ⟨h, e⟩ | ⟨h, e⟩ | ⟨h, e⟩ | ⟨h, e⟩
    all_goals
      rw [e]
      simp only [if_true, Bool.false_eq_true, if_false]
      rcases t with _ | ⟨c, _ | ⟨d, _ | ⟨x, u⟩⟩⟩
      all_goals
        simp only [bl_zero, bl_nil, bl_cons, any_iff, SP_nil, SP_cons, SP_none]
        try rw [SP_end _ _ _ _ _ _ (by decide)]
        try simp only [true_and, iff_false]
        omega

end Go.Proofs.Ytiohiiekaofkbaa
