/- Texts of this claim, as far as they are used here: U4s3, U4s4, U5, U6, RT, S6, J0, F0. -/
import Derived.Test.YtiohiiekaofkbaaGreatDoorZ05
import Derived.Test.YtiohiiekaofkbaaGreatDoorZ00
import Derived.Test.YtiohiiekaofkbaaGreatDoorZ02
/- The reference: does a sign of 3 bytes begin so? -/
namespace Go.Proofs.YtiohiiekaofkbaaGreatDoor
set_option linter.unusedVariables false
set_option linter.unusedSimpArgs false
open Go.RowKit
set_option maxRecDepth 100000 in
set_option maxHeartbeats 8000000 in
theorem begins_3 (s : ByteArray) (w : World) (hs : s.size ≤ 140737488351232) (hp : 0 < s.size) :
    Calls Tryz.prog 91 #[.string s, .int .i64 3] w (fun e w' => e = .returned (.bool (begG 224 16 2048 65536 2 (ns s))) ∧ Below w.heap.size w w') := by
  have hR : begG 224 16 2048 65536 2 (ns s) = if (s[0].toNat : Int) - 224 < 0 ∨ 16 ≤ (s[0].toNat : Int) - 224 then false else bl 2048 65536 2 ((s[0].toNat : Int) - 224) ((ns s).drop 1) := by
    have h1 := ns_drop s 0 hp
    simp only [List.drop_zero, Nat.zero_add] at h1
    have h2 := congrArg (begG 224 16 2048 65536 2) h1
    rw [h2]
    rfl
  have hb1 : ((s[0].toNat : Nat) : Int) < 256 := by have := s[0].toNat_lt; omega
  have hb0 : (0 : Int) ≤ (s[0].toNat : Int) := by omega
  rcases hR0 : begG 224 16 2048 65536 2 (ns s) with _ | _
  all_goals
    rw [hR0] at hR
    have HR := hid hR
    clear hR hR0
    go_enter Tryz.func91, Tryz.ntmps91
    rcases Int.lt_or_le ((s[0].toNat : Int) - 224) 0 with c1 | c1
    · first
        | (exfalso; omega)
        | (exfalso; have := HR.out; rw [if_pos (.inl c1)] at this; cases this; done)
        | (clear HR; go_wp2; go_ret; exact ⟨rfl, bel⟩)
    · rcases Int.lt_or_le ((s[0].toNat : Int) - 224) 16 with c2 | c2
      · have HB := hid (HR.out.trans (if_neg (show ¬ ((s[0].toNat : Int) - 224 < 0 ∨ 16 ≤ (s[0].toNat : Int) - 224) by omega))).symm
        clear HR
        go_wp2
        go_loop [9, 10] (fun v9 v10 => ∃ (j : Nat) (n : Int), v10 = .int .i64 j ∧ v9 = .int .i64 n ∧ 1 ≤ j ∧ j ≤ 3 ∧ j ≤ s.size ∧ 0 ≤ n ∧ ((j = 1 ∧ n < 128) ∨ (j = 2 ∧ n < 8192) ∨ (j = 3 ∧ n < 524288) ∨ (j = 4 ∧ n < 33554432)) ∧ Hid (bl 2048 65536 (3 - j) n ((ns s).drop j) = bl 2048 65536 2 ((s[0].toNat : Int) - 224) ((ns s).drop 1))) (fun _ v10 => (3 - intOf v10).toNat)
        case atStart => exact ⟨1, _, by go_num, rfl, by omega, by omega, hp, by omega, by omega, hid (by simp)⟩
        case round =>
          obtain ⟨j, n, rfl, rfl, j1, j2, j3, n0, hn, HJ⟩ := hrel
          have HJ2 := hid (HJ.out.trans HB.out)
          have nb : n < 33554432 := by omega
          by_cases hj : j < 3
          · have nb2 : n ≤ 10000000 := by omega
            obtain ⟨k, hk⟩ : ∃ k, 3 - j = k + 1 := ⟨3 - j - 1, by omega⟩
            by_cases hjs : j < s.size
            · have hx0 : (0 : Int) ≤ (s[j].toNat : Int) := by omega
              have hx1 : ((s[j].toNat : Nat) : Int) < 256 := by have := s[j].toNat_lt; omega
              have HX := hid (show (if (s[j].toNat : Int) - 128 < 0 ∨ 63 < (s[j].toNat : Int) - 128 then false else bl 2048 65536 k (64 * n + ((s[j].toNat : Int) - 128)) ((ns s).drop (j + 1))) = bl 2048 65536 (3 - j) n ((ns s).drop j) by rw [hk, ns_drop s j hjs, bl])
              have HN := hid hn
              have HK := hid hk
              clear hn hk
              rcases Int.lt_or_le ((s[j].toNat : Int) - 128) 0 with d1 | d1
              · have HV := hid ((HX.out.trans HJ2.out).symm.trans (if_pos (.inl d1)))
                go_wp2
                all_goals go_ret
                all_goals exact ⟨ret_bool (by first | rfl | exact HV.out.symm), bel⟩
              · rcases Int.lt_or_le 63 ((s[j].toNat : Int) - 128) with d2 | d2
                · have HV := hid ((HX.out.trans HJ2.out).symm.trans (if_pos (.inr d2)))
                  go_wp2
                  all_goals go_ret
                  all_goals exact ⟨ret_bool (by first | rfl | exact HV.out.symm), bel⟩
                · have HV := hid ((if_neg (show ¬ ((s[j].toNat : Int) - 128 < 0 ∨ 63 < (s[j].toNat : Int) - 128) by omega)).symm.trans (HX.out.trans HJ.out))
                  go_wp2
                  refine ⟨⟨j + 1, _, by go_num, rfl, by omega, by omega, by omega, by omega, by have := HN.out; omega, hid ?_⟩, by simp [intOf]; omega⟩
                  rw [← HV.out]
                  congr 1
                  have := HK.out; omega
            · have HV := hid (show anyB n (64 ^ (k + 1)) 2048 65536 = bl 2048 65536 (3 - j) n ((ns s).drop j) by rw [hk, List.drop_eq_nil_of_le (by rw [ns_len]; omega), bl])
              have HE := hid (show ((3 : Int) - (j : Int)).toNat = k + 1 by omega)
              have HE2 := hid hk
              clear hn hk
              go_wp2_with (first | (go_at_call 98; ((with_reducible refine (any_walk n (3 - j) 2048 65536 _ n0 nb2 (by omega) (by omega) (by omega) (by omega) (by omega) (by omega)).mono ?_); rintro e w' ⟨rfl, hb⟩)))
              go_ret
              exact ⟨ret_bool (by first | (rw [HE.out]; exact HV.out.trans HJ2.out) | (rw [HE2.out]; exact HV.out.trans HJ2.out)), bel⟩
          · have hj2 : j = 3 := by omega
            have HV := hid (show (decide (2048 ≤ n) && decide (n < 65536) && isB n) = bl 2048 65536 (3 - j) n ((ns s).drop j) by rw [hj2]; rfl)
            clear hn hj2
            go_wp2_with (first | (go_at_call 99; ((with_reducible refine (is_walk n _).mono ?_); rintro e w' ⟨rfl, hb⟩)))
            all_goals
              go_ret
              exact ⟨ret_bool (by first | (rw [← HJ2.out, ← HV.out]; done) | (rw [← HJ2.out, ← HV.out]; simp [*]; done) | (rw [← HJ2.out, ← HV.out]; simp [*]; intros; omega) | (rw [← HJ2.out, ← HV.out]; simp; intros; omega)), bel⟩
      · first
          | (exfalso; have := HR.out; rw [if_pos (.inr c2)] at this; cases this; done)
          | (clear HR; go_wp2; go_ret; exact ⟨rfl, bel⟩)
end Go.Proofs.YtiohiiekaofkbaaGreatDoor
/- The reference: does a sign of 4 bytes begin so? -/
namespace Go.Proofs.YtiohiiekaofkbaaGreatDoor
set_option linter.unusedVariables false
set_option linter.unusedSimpArgs false
open Go.RowKit
set_option maxRecDepth 100000 in
set_option maxHeartbeats 8000000 in
theorem begins_4 (s : ByteArray) (w : World) (hs : s.size ≤ 140737488351232) (hp : 0 < s.size) :
    Calls Tryz.prog 91 #[.string s, .int .i64 4] w (fun e w' => e = .returned (.bool (begG 240 8 65536 1114112 3 (ns s))) ∧ Below w.heap.size w w') := by
  have hR : begG 240 8 65536 1114112 3 (ns s) = if (s[0].toNat : Int) - 240 < 0 ∨ 8 ≤ (s[0].toNat : Int) - 240 then false else bl 65536 1114112 3 ((s[0].toNat : Int) - 240) ((ns s).drop 1) := by
    have h1 := ns_drop s 0 hp
    simp only [List.drop_zero, Nat.zero_add] at h1
    have h2 := congrArg (begG 240 8 65536 1114112 3) h1
    rw [h2]
    rfl
  have hb1 : ((s[0].toNat : Nat) : Int) < 256 := by have := s[0].toNat_lt; omega
  have hb0 : (0 : Int) ≤ (s[0].toNat : Int) := by omega
  rcases hR0 : begG 240 8 65536 1114112 3 (ns s) with _ | _
  all_goals
    rw [hR0] at hR
    have HR := hid hR
    clear hR hR0
    go_enter Tryz.func91, Tryz.ntmps91
    rcases Int.lt_or_le ((s[0].toNat : Int) - 240) 0 with c1 | c1
    · first
        | (exfalso; omega)
        | (exfalso; have := HR.out; rw [if_pos (.inl c1)] at this; cases this; done)
        | (clear HR; go_wp2; go_ret; exact ⟨rfl, bel⟩)
    · rcases Int.lt_or_le ((s[0].toNat : Int) - 240) 8 with c2 | c2
      · have HB := hid (HR.out.trans (if_neg (show ¬ ((s[0].toNat : Int) - 240 < 0 ∨ 8 ≤ (s[0].toNat : Int) - 240) by omega))).symm
        clear HR
        go_wp2
        go_loop [9, 10] (fun v9 v10 => ∃ (j : Nat) (n : Int), v10 = .int .i64 j ∧ v9 = .int .i64 n ∧ 1 ≤ j ∧ j ≤ 4 ∧ j ≤ s.size ∧ 0 ≤ n ∧ ((j = 1 ∧ n < 128) ∨ (j = 2 ∧ n < 8192) ∨ (j = 3 ∧ n < 524288) ∨ (j = 4 ∧ n < 33554432)) ∧ Hid (bl 65536 1114112 (4 - j) n ((ns s).drop j) = bl 65536 1114112 3 ((s[0].toNat : Int) - 240) ((ns s).drop 1))) (fun _ v10 => (4 - intOf v10).toNat)
        case atStart => exact ⟨1, _, by go_num, rfl, by omega, by omega, hp, by omega, by omega, hid (by simp)⟩
        case round =>
          obtain ⟨j, n, rfl, rfl, j1, j2, j3, n0, hn, HJ⟩ := hrel
          have HJ2 := hid (HJ.out.trans HB.out)
          have nb : n < 33554432 := by omega
          by_cases hj : j < 4
          · have nb2 : n ≤ 10000000 := by omega
            obtain ⟨k, hk⟩ : ∃ k, 4 - j = k + 1 := ⟨4 - j - 1, by omega⟩
            by_cases hjs : j < s.size
            · have hx0 : (0 : Int) ≤ (s[j].toNat : Int) := by omega
              have hx1 : ((s[j].toNat : Nat) : Int) < 256 := by have := s[j].toNat_lt; omega
              have HX := hid (show (if (s[j].toNat : Int) - 128 < 0 ∨ 63 < (s[j].toNat : Int) - 128 then false else bl 65536 1114112 k (64 * n + ((s[j].toNat : Int) - 128)) ((ns s).drop (j + 1))) = bl 65536 1114112 (4 - j) n ((ns s).drop j) by rw [hk, ns_drop s j hjs, bl])
              have HN := hid hn
              have HK := hid hk
              clear hn hk
              rcases Int.lt_or_le ((s[j].toNat : Int) - 128) 0 with d1 | d1
              · have HV := hid ((HX.out.trans HJ2.out).symm.trans (if_pos (.inl d1)))
                go_wp2
                all_goals go_ret
                all_goals exact ⟨ret_bool (by first | rfl | exact HV.out.symm), bel⟩
              · rcases Int.lt_or_le 63 ((s[j].toNat : Int) - 128) with d2 | d2
                · have HV := hid ((HX.out.trans HJ2.out).symm.trans (if_pos (.inr d2)))
                  go_wp2
                  all_goals go_ret
                  all_goals exact ⟨ret_bool (by first | rfl | exact HV.out.symm), bel⟩
                · have HV := hid ((if_neg (show ¬ ((s[j].toNat : Int) - 128 < 0 ∨ 63 < (s[j].toNat : Int) - 128) by omega)).symm.trans (HX.out.trans HJ.out))
                  go_wp2
                  refine ⟨⟨j + 1, _, by go_num, rfl, by omega, by omega, by omega, by omega, by have := HN.out; omega, hid ?_⟩, by simp [intOf]; omega⟩
                  rw [← HV.out]
                  congr 1
                  have := HK.out; omega
            · have HV := hid (show anyB n (64 ^ (k + 1)) 65536 1114112 = bl 65536 1114112 (4 - j) n ((ns s).drop j) by rw [hk, List.drop_eq_nil_of_le (by rw [ns_len]; omega), bl])
              have HE := hid (show ((4 : Int) - (j : Int)).toNat = k + 1 by omega)
              have HE2 := hid hk
              clear hn hk
              go_wp2_with (first | (go_at_call 98; ((with_reducible refine (any_walk n (4 - j) 65536 1114112 _ n0 nb2 (by omega) (by omega) (by omega) (by omega) (by omega) (by omega)).mono ?_); rintro e w' ⟨rfl, hb⟩)))
              go_ret
              exact ⟨ret_bool (by first | (rw [HE.out]; exact HV.out.trans HJ2.out) | (rw [HE2.out]; exact HV.out.trans HJ2.out)), bel⟩
          · have hj2 : j = 4 := by omega
            have HV := hid (show (decide (65536 ≤ n) && decide (n < 1114112) && isB n) = bl 65536 1114112 (4 - j) n ((ns s).drop j) by rw [hj2]; rfl)
            clear hn hj2
            go_wp2_with (first | (go_at_call 99; ((with_reducible refine (is_walk n _).mono ?_); rintro e w' ⟨rfl, hb⟩)))
            all_goals
              go_ret
              exact ⟨ret_bool (by first | (rw [← HJ2.out, ← HV.out]; done) | (rw [← HJ2.out, ← HV.out]; simp [*]; done) | (rw [← HJ2.out, ← HV.out]; simp [*]; intros; omega) | (rw [← HJ2.out, ← HV.out]; simp; intros; omega)), bel⟩
      · first
          | (exfalso; have := HR.out; rw [if_pos (.inr c2)] at this; cases this; done)
          | (clear HR; go_wp2; go_ret; exact ⟨rfl, bel⟩)
end Go.Proofs.YtiohiiekaofkbaaGreatDoor
/- Plain law: a sign of so many bytes begins so just if the package's own way says it has or lacks just so many. -/
namespace Go.Proofs.YtiohiiekaofkbaaGreatDoor
set_option linter.unusedVariables false
set_option linter.unusedSimpArgs false
open Go.RowKit
theorem begins_any (s : ByteArray) (z : Int) (w : World) (hs : s.size ≤ 140737488351232) (hp : 0 < s.size) (z0 : 1 ≤ z) (z1 : z ≤ 4) :
    Calls Tryz.prog 91 #[.string s, .int .i64 z] w (fun e w' => e = .returned (.bool (begT z (ns s))) ∧ Below w.heap.size w w') := by
  rcases (show z = 1 ∨ z = 2 ∨ z = 3 ∨ z = 4 by omega) with rfl | rfl | rfl | rfl
  · exact begins_1 s w hs hp
  · exact begins_2 s w hs hp
  · exact begins_3 s w hs hp
  · exact begins_4 s w hs hp
theorem sgnR_cons (b : Int) (t : List Int) : sgnR (b :: t) = if (leadR b).2.2.2 then sgnG (leadR b).1 (leadR b).2.1 (leadR b).2.2.1 1 t else (0, 0, false) := rfl
theorem any_iff (n p least most : Int) : anyB n p least most = true ↔
    (n * p < least ∧ ((¬ (55296 ≤ least ∧ least ≤ 57343) ∧ least ≤ n * p + p - 1 ∧ least ≤ most - 1) ∨ ((55296 ≤ least ∧ least ≤ 57343) ∧ 57344 ≤ n * p + p - 1 ∧ 57344 ≤ most - 1))) ∨
    (least ≤ n * p ∧ ((¬ (55296 ≤ n * p ∧ n * p ≤ 57343) ∧ n * p ≤ n * p + p - 1 ∧ n * p ≤ most - 1) ∨ ((55296 ≤ n * p ∧ n * p ≤ 57343) ∧ 57344 ≤ n * p + p - 1 ∧ 57344 ≤ most - 1))) := by
  simp only [anyB, decide_eq_true_iff]
  generalize n * p = q
  by_cases c1 : q < least
  · simp only [if_pos c1]
    by_cases c3 : 55296 ≤ least ∧ least ≤ 57343
    · simp only [if_pos c3]
      split <;> omega
    · simp only [if_neg c3]
      split <;> omega
  · simp only [if_neg c1]
    by_cases c3 : 55296 ≤ q ∧ q ≤ 57343
    · simp only [if_pos c3]
      split <;> omega
    · simp only [if_neg c3]
      split <;> omega
theorem begG_iff (head room least most : Int) (k : Nat) (a : Int) (t : List Int) : begG head room least most k (a :: t) = true ↔ head ≤ a ∧ a < head + room ∧ bl least most k (a - head) t = true := by
  simp only [begG]
  split
  · simp; omega
  · constructor
    · intro h; exact ⟨by omega, by omega, h⟩
    · intro h; exact h.2.2
theorem bl_zero (least most n : Int) (l : List Int) : bl least most 0 n l = true ↔ least ≤ n ∧ n < most ∧ 0 ≤ n ∧ n ≤ 1114111 ∧ (n < 55296 ∨ 57343 < n) := by
  cases l <;> simp [bl, isB, and_assoc]
theorem bl_nil (least most n : Int) (k : Nat) : bl least most (k + 1) n [] = anyB n (64 ^ (k + 1)) least most := rfl
theorem bl_cons (least most n : Int) (k : Nat) (x : Int) (t : List Int) : bl least most (k + 1) n (x :: t) = true ↔ 128 ≤ x ∧ x ≤ 191 ∧ bl least most k (64 * n + (x - 128)) t = true := by
  simp only [bl]
  split
  · simp; omega
  · constructor
    · intro h; exact ⟨by omega, by omega, h⟩
    · intro h; exact h.2.2
def SP (z : Int) (r : Int × Int × Bool) : Prop := r.2.2 = true ∧ r.1 + r.2.1 = z
theorem SP_nil (z m lo hi n : Int) : SP z (sgnG m lo hi n []) ↔ m + 1 = z := by simp [SP, sgnG]; omega
theorem SP_cons (z m lo hi n x : Int) (t : List Int) : SP z (sgnG m lo hi n (x :: t)) ↔ (m < n ∧ m + 1 = z) ∨ (n ≤ m ∧ ¬ (n = 1 ∧ (x < lo ∨ hi < x)) ∧ 128 ≤ x ∧ x < 192 ∧ SP z (sgnG m lo hi (n + 1) t)) := by
  simp only [sgnG]
  split
  · simp only [SP, true_and]; omega
  · split
    · constructor
      · intro h; simp [SP] at h
      · intro h; omega
    · constructor
      · intro h; exact .inr ⟨by omega, by omega, by omega, by omega, h⟩
      · intro h
        rcases h with h | h
        · omega
        · exact h.2.2.2.2
theorem SP_end (z m lo hi n : Int) (l : List Int) (h : m < n) : SP z (sgnG m lo hi n l) ↔ m + 1 = z := by
  cases l with
  | nil => exact SP_nil z m lo hi n
  | cons x t => rw [SP_cons]; omega
theorem SP_none (z : Int) : SP z (0, 0, false) ↔ False := by simp [SP]
set_option maxHeartbeats 4000000 in
theorem beg1 (l : List Int) (hl : ∀ x ∈ l, 0 ≤ x ∧ x < 256) : begG 0 128 0 128 0 l = true ↔ SP 1 (sgnR l) := by
  cases l with
  | nil => simp [begG, sgnR, SP]
  | cons b t =>
    have hb := hl b (by simp)
    rw [sgnR_cons, begG_iff]
    rcases lead_cases b with ⟨h, e⟩ | ⟨h, e⟩ | ⟨h, e⟩ | ⟨h, e⟩ | ⟨h, e⟩ | ⟨h, e⟩ | ⟨h, e⟩ | ⟨h, e⟩ | ⟨h, e⟩
    all_goals
      rw [e]
      simp only [if_true, Bool.false_eq_true, if_false]
      rcases t with _ | ⟨c, _ | ⟨d, _ | ⟨x, u⟩⟩⟩
      all_goals
        simp only [bl_zero, bl_nil, bl_cons, any_iff, SP_nil, SP_cons, SP_none]
        try rw [SP_end _ _ _ _ _ _ (by decide)]
        try simp only [true_and, iff_false]
        omega
set_option maxHeartbeats 4000000 in
theorem beg2 (l : List Int) (hl : ∀ x ∈ l, 0 ≤ x ∧ x < 256) : begG 192 32 128 2048 1 l = true ↔ SP 2 (sgnR l) := by
  cases l with
  | nil => simp [begG, sgnR, SP]
  | cons b t =>
    have hb := hl b (by simp)
    rw [sgnR_cons, begG_iff]
    rcases lead_cases b with ⟨h, e⟩ | ⟨h, e⟩ | ⟨h, e⟩ | ⟨h, e⟩ | ⟨h, e⟩ | ⟨h, e⟩ | ⟨h, e⟩ | ⟨h, e⟩ | ⟨h, e⟩
    all_goals
      rw [e]
      simp only [if_true, Bool.false_eq_true, if_false]
      rcases t with _ | ⟨c, _ | ⟨d, _ | ⟨x, u⟩⟩⟩
      all_goals
        simp only [bl_zero, bl_nil, bl_cons, any_iff, SP_nil, SP_cons, SP_none]
        try rw [SP_end _ _ _ _ _ _ (by decide)]
        try simp only [true_and, iff_false]
        omega
set_option maxHeartbeats 4000000 in
theorem beg3 (l : List Int) (hl : ∀ x ∈ l, 0 ≤ x ∧ x < 256) : begG 224 16 2048 65536 2 l = true ↔ SP 3 (sgnR l) := by
  cases l with
  | nil => simp [begG, sgnR, SP]
  | cons b t =>
    have hb := hl b (by simp)
    rw [sgnR_cons, begG_iff]
    rcases lead_cases b with ⟨h, e⟩ | ⟨h, e⟩ | ⟨h, e⟩ | ⟨h, e⟩ | ⟨h, e⟩ | ⟨h, e⟩ | ⟨h, e⟩ | ⟨h, e⟩ | ⟨h, e⟩
    all_goals
      rw [e]
      simp only [if_true, Bool.false_eq_true, if_false]
      rcases t with _ | ⟨c, _ | ⟨d, _ | ⟨x, u⟩⟩⟩
      all_goals
        simp only [bl_zero, bl_nil, bl_cons, any_iff, SP_nil, SP_cons, SP_none]
        try rw [SP_end _ _ _ _ _ _ (by decide)]
        try simp only [true_and, iff_false]
        omega
set_option maxHeartbeats 4000000 in
theorem beg4 (l : List Int) (hl : ∀ x ∈ l, 0 ≤ x ∧ x < 256) : begG 240 8 65536 1114112 3 l = true ↔ SP 4 (sgnR l) := by
  cases l with
  | nil => simp [begG, sgnR, SP]
  | cons b t =>
    have hb := hl b (by simp)
    rw [sgnR_cons, begG_iff]
    rcases lead_cases b with ⟨h, e⟩ | ⟨h, e⟩ | ⟨h, e⟩ | ⟨h, e⟩ | ⟨h, e⟩ | ⟨h, e⟩ | ⟨h, e⟩ | ⟨h, e⟩ | ⟨h, e⟩
    all_goals
      rw [e]
      simp only [if_true, Bool.false_eq_true, if_false]
      rcases t with _ | ⟨c, _ | ⟨d, _ | ⟨x, u⟩⟩⟩
      all_goals
        simp only [bl_zero, bl_nil, bl_cons, any_iff, SP_nil, SP_cons, SP_none]
        try rw [SP_end _ _ _ _ _ _ (by decide)]
        try simp only [true_and, iff_false]
        omega
end Go.Proofs.YtiohiiekaofkbaaGreatDoor
/- The reference's Need: how many bytes there must be more. -/
namespace Go.Proofs.YtiohiiekaofkbaaGreatDoor
set_option linter.unusedVariables false
set_option linter.unusedSimpArgs false
open Go.RowKit
theorem begT_iff (z : Int) (l : List Int) (hl : ∀ x ∈ l, 0 ≤ x ∧ x < 256) (z0 : 1 ≤ z) (z1 : z ≤ 4) : begT z l = true ↔ SP z (sgnR l) := by
  rcases (show z = 1 ∨ z = 2 ∨ z = 3 ∨ z = 4 by omega) with rfl | rfl | rfl | rfl
  · exact beg1 l hl
  · exact beg2 l hl
  · exact beg3 l hl
  · exact beg4 l hl
theorem sgnG_lacks (m lo hi : Int) (l : List Int) : ∀ n : Int, n ≤ m + 1 → (sgnG m lo hi n l).2.2 = true → 0 < (sgnG m lo hi n l).2.1 → (sgnG m lo hi n l).1 = n + l.length := by
  induction l with
  | nil => intro n h _ _; simp [sgnG]
  | cons x t ih =>
    intro n h ht hk
    simp only [sgnG] at ht hk ⊢
    split at ht
    · rename_i h1; rw [if_pos h1] at hk; simp at hk; omega
    · rename_i h1
      split at ht
      · simp at ht
      · rename_i h2
        rw [if_neg h1, if_neg h2] at hk
        rw [if_neg h1, if_neg h2, ih (n + 1) (by omega) ht hk]
        simp only [List.length_cons]
        push_cast
        omega
theorem sgnR_lacks (l : List Int) (h : (sgnR l).2.2 = true) (hk : 0 < (sgnR l).2.1) : (sgnR l).1 = l.length := by
  cases l with
  | nil => simp [sgnR] at h
  | cons b t =>
    have hl := leadR_le b
    simp only [sgnR] at h hk ⊢
    split at h
    · rename_i hb
      rw [if_pos hb] at hk
      rw [if_pos hb, sgnG_lacks _ _ _ t 1 (by omega) h hk]
      simp only [List.length_cons]
      push_cast
      omega
    · simp at h
theorem sgnR_sum (l : List Int) (h : (sgnR l).2.2 = true) : 1 ≤ (sgnR l).1 + (sgnR l).2.1 ∧ (sgnR l).1 + (sgnR l).2.1 ≤ 4 := by
  cases l with
  | nil => simp [sgnR] at h
  | cons b t =>
    have hl := leadR_le b
    simp only [sgnR] at h ⊢
    split at h
    · rename_i hb
      rw [if_pos hb]
      have := sgnG_le _ _ _ t 1 (by omega) h
      omega
    · simp at h
theorem begT_false {z : Int} {l : List Int} (hl : ∀ x ∈ l, 0 ≤ x ∧ x < 256) (z0 : 1 ≤ z) (z1 : z ≤ 4) (h : ¬ SP z (sgnR l)) : begT z l = false := by
  rcases hb : begT z l with _ | _
  · rfl
  · exact absurd ((begT_iff z l hl z0 z1).1 hb) h
set_option maxHeartbeats 8000000 in
theorem refNeed_walk (s : ByteArray) (w : World) (hs : s.size ≤ 1000000000) :
    Calls Tryz.prog 76 #[.string s] w (fun e w' => e = .returned (.tuple #[.int .i64 (need (ns s)).1, .bool (need (ns s)).2]) ∧ Below w.heap.size w w') := by
  go_enter Tryz.func76, Tryz.ntmps76
  go_wp2
  go_loopw [4] (fun v4 wr => ∃ (a f : Nat), v4 = .int .i64 a ∧ a ≤ s.size ∧ s.size - a ≤ f ∧ Hid (needF f ((ns s).drop a) = need (ns s)) ∧ w.heap.size ≤ wr.heap.size ∧ Hid (Below w.heap.size w wr)) (fun v4 _ => s.size - (intOf v4).toNat)
  case atStart => exact ⟨0, s.size, by go_num, by omega, by omega, hid (by unfold need; rw [ns_len]; rfl), Nat.le_refl _, Below.refl _ _⟩
  case round =>
    obtain ⟨a, f, rfl, ha, hf, HN, zr, KR⟩ := hrel
    by_cases hlt : a < s.size
    · obtain ⟨f, rfl⟩ : ∃ g, f = g + 1 := ⟨f - 1, by omega⟩
      obtain ⟨l, hl⟩ : ∃ l, (ns s).drop a = l := ⟨_, rfl⟩
      have hlen : l.length = s.size - a := by rw [← hl, List.length_drop, ns_len]
      have hby : ∀ x ∈ l, 0 ≤ x ∧ x < 256 := fun x hx => ns_byte s x (List.mem_of_mem_drop (by rw [hl]; exact hx))
      have hex : ns (s.extract a s.size) = l := by rw [ns_extract s a ha, hl]
      have hesz : (s.extract a s.size).size = s.size - a := by simp
      have HN2 := hid (show (if (sgnR l).2.2 = false ∨ 0 < (sgnR l).2.1 then ((sgnR l).2.1, (sgnR l).2.2) else needF f (l.drop (sgnR l).1.toNat)) = need (ns s) by
        have h2 := HN.out
        rw [hl, needF, if_neg (fun h => by rw [h] at hlen; simp at hlen; omega)] at h2
        exact h2)
      have HBG := hid (show ∀ (z : Int) (W : World), 1 ≤ z → z ≤ 4 → Calls Tryz.prog 91 #[.string (s.extract a s.size), .int .i64 z] W (fun e w' => e = .returned (.bool (begT z l)) ∧ Below W.heap.size W w') by
        intro z W z0 z1
        have := begins_any (s.extract a s.size) z W (by rw [hesz]; omega) (by rw [hesz]; omega) z0 z1
        rwa [hex] at this)
      have HBY := hid hby
      have hb := sgnR_bd l
      have hlk := sgnR_lacks l
      have hsum := sgnR_sum l
      have hng := sgnR_neg l
      have hnn : l.drop (sgnR l).1.toNat = (ns s).drop (a + (sgnR l).1.toNat) := by rw [← hl, List.drop_drop]
      rw [hnn] at HN2
      have HSPF := hid (fun (z : Int) (z0 : 1 ≤ z) (z1 : z ≤ 4) => @begT_false z l hby z0 z1)
      have HSPT := hid (fun (z : Int) (z0 : 1 ≤ z) (z1 : z ≤ 4) => begT_iff z l hby z0 z1)
      rcases hR : sgnR l with ⟨h, k, is⟩
      rw [hR] at HN2 hb hlk hsum hng HSPF HSPT
      simp only at HN2 hb hlk hsum hng
      rw [hlen] at hb hlk
      obtain ⟨hb0, hb1, hb2, hb3, hb4⟩ := hb
      have HEX := hid hex
      have HLN := hid hlen
      have HL := hid hl
      have HSZ := hid hesz
      clear hl hlen hby hex hesz hnn hR HN
      cases is with
      | false =>
        have HV := hid (show need (ns s) = (0, false) by rw [← HN2.out, if_pos (.inl rfl)]; have := hng rfl; simp at this; simp [this])
        have HF := hid (show ∀ z : Int, 1 ≤ z → z ≤ 4 → begT z l = false from fun z z0 z1 => HSPF.out z z0 z1 (by simp [SP]))
        clear hlk hsum hng
        obtain ⟨wo, rfl⟩ : ∃ wo : World, wo = wr := ⟨_, rfl⟩
        go_wp2
        go_loopw [4, 5, 6] (fun v4 v5 v6 wr => ∃ z : Int, v4 = .int .i64 a ∧ v5 = .bool false ∧ v6 = .int .i64 z ∧ 1 ≤ z ∧ z ≤ 5 ∧ w.heap.size ≤ wr.heap.size ∧ Hid (Below w.heap.size w wr)) (fun _ _ v6 _ => (5 - intOf v6).toNat)
        case atStart => exact ⟨1, rfl, rfl, rfl, by omega, by omega, zr, KR⟩
        case round =>
          obtain ⟨z, rfl, rfl, rfl, z0, z1, zw, KW⟩ := hrel
          by_cases hz : z ≤ 4
          · have HFZ := hid (HF.out z z0 hz)
            go_wp2_with (first | (go_at_call 91; ((with_reducible refine (HBG.out z _ z0 hz).mono ?_); rintro e w' ⟨rfl, hb⟩; rw [HFZ.out]; have k1 := (⟨KW.out.trans (hb.mono zw), Nat.le_trans zw hb.size⟩ : _ ∧ _); have zw2 := k1.2; have KW2 := hid k1.1; clear k1 hb)))
            go_roundw
            case rel => exact ⟨z + 1, rfl, rfl, rfl, by omega, by omega, zw2, KW2⟩
            case measure => simp [intOf]; omega
          · go_wp2
            refine bodyPost_ret (v := .tuple #[.int .i64 0, .bool false]) ?_ rfl ⟨by rw [HV.out], KW.out⟩
            simp [results, Tryz.results76, go_sem]
      | true =>
        obtain ⟨s0, s1⟩ := hsum rfl
        have hlk2 := hlk rfl
        clear hlk hsum hng
        have HT := hid (show begT (h + k) l = true from (HSPT.out (h + k) s0 s1).2 ⟨rfl, rfl⟩)
        have HF := hid (show ∀ z : Int, 1 ≤ z → z ≤ 4 → z ≠ h + k → begT z l = false from fun z z0 z1 hne => HSPF.out z z0 z1 (by simp [SP]; omega))
        obtain ⟨wo, rfl⟩ : ∃ wo : World, wo = wr := ⟨_, rfl⟩
        go_wp2
        go_loopw [4, 5, 6] (fun v4 v5 v6 wr => ∃ (z : Int) (fd : Bool), v4 = .int .i64 (if fd then (a : Int) + h else a) ∧ v5 = .bool fd ∧ v6 = .int .i64 z ∧ 1 ≤ z ∧ z ≤ 5 ∧ (fd = false → z ≤ h + k) ∧ (fd = true → k ≤ 0) ∧ w.heap.size ≤ wr.heap.size ∧ Hid (Below w.heap.size w wr)) (fun _ v5 v6 _ => (5 - intOf v6).toNat + (match v5 with | .bool true => 0 | _ => 1))
        case atStart => exact ⟨1, false, by simp, rfl, rfl, by omega, by omega, fun _ => s0, fun h => (by cases h), zr, KR⟩
        case round =>
          obtain ⟨z, fd, rfl, rfl, rfl, z0, z1, zf, zt, zw, KW⟩ := hrel
          cases fd with
          | true =>
            have hk0 := zt rfl
            clear zf zt
            have HV := hid (show needF f ((ns s).drop (a + h.toNat)) = need (ns s) by rw [← HN2.out, if_neg (by simp; omega)])
            obtain ⟨h', rfl⟩ : ∃ h' : Nat, h = h' := ⟨h.toNat, by omega⟩
            simp only [if_true]
            have HV2 := hid (show needF f ((ns s).drop (a + h')) = need (ns s) by have := HV.out; simpa using this)
            go_wp2
            all_goals
              refine ⟨⟨a + h', f, by go_num, by omega, by omega, HV2, zw, KW⟩, by simp [intOf]; omega⟩
          | false =>
            have zh := zf rfl
            clear zf zt
            simp only [Bool.false_eq_true, if_false]
            by_cases hz : z < h + k
            · have HFZ := hid (HF.out z z0 (by omega) (by omega))
              have hz4 : z ≤ 4 := by omega
              go_wp2_with (first | (go_at_call 91; ((with_reducible refine (HBG.out z _ z0 (by omega)).mono ?_); rintro e w' ⟨rfl, hb⟩; rw [HFZ.out]; have k1 := (⟨KW.out.trans (hb.mono zw), Nat.le_trans zw hb.size⟩ : _ ∧ _); have zw2 := k1.2; have KW2 := hid k1.1; clear k1 hb)))
              go_roundw
              case rel => exact ⟨z + 1, false, by simp, rfl, rfl, by omega, by omega, fun _ => by omega, fun h => (by cases h), zw2, KW2⟩
              case measure => simp [intOf]; omega
            · have hz2 : z = h + k := by omega
              have hz4 : z ≤ 4 := by omega
              have HTZ := hid (show begT z l = true by rw [hz2]; exact HT.out)
              by_cases hk : 0 < k
              · have hh := hlk2 hk
                have hgt : (s.size : Int) < (a : Int) + z := by omega
                have HVK := hid (show need (ns s) = ((a : Int) + z - (s.size : Int), true) by rw [← HN2.out, if_pos (.inr hk)]; congr 1; omega)
                clear hz hz2 hh hlk2 hk
                go_wp2_with (first | (go_at_call 91; ((with_reducible refine (HBG.out z _ z0 (by omega)).mono ?_); rintro e w' ⟨rfl, hb⟩; rw [HTZ.out]; have k1 := (⟨KW.out.trans (hb.mono zw), Nat.le_trans zw hb.size⟩ : _ ∧ _); have zw2 := k1.2; have KW2 := hid k1.1; clear k1 hb)))
                refine bodyPost_ret (v := .tuple #[.int .i64 ((a : Int) + z - (s.size : Int)), .bool true]) ?_ rfl ⟨by rw [HVK.out], KW2.out⟩
                simp [results, Tryz.results76, go_sem]
              · have hle : (a : Int) + z ≤ (s.size : Int) := by omega
                have HZH := hid (show z = h by omega)
                clear hz hz2 hlk2
                go_wp2_with (first | (go_at_call 91; ((with_reducible refine (HBG.out z _ z0 (by omega)).mono ?_); rintro e w' ⟨rfl, hb⟩; rw [HTZ.out]; have k1 := (⟨KW.out.trans (hb.mono zw), Nat.le_trans zw hb.size⟩ : _ ∧ _); have zw2 := k1.2; have KW2 := hid k1.1; clear k1 hb)))
                go_roundw
                case rel => exact ⟨z + 1, true, by rw [if_pos rfl, HZH.out], rfl, rfl, by omega, by omega, fun h => (by cases h), fun _ => by omega, zw2, KW2⟩
                case measure => simp [intOf]; omega
    · have hae : a = s.size := by omega
      have HV := hid (show need (ns s) = (0, true) by
        rw [← HN.out, List.drop_eq_nil_of_le (by rw [ns_len]; omega)]
        cases f <;> simp [needF])
      clear hae
      go_wp2
      refine bodyPost_ret (v := .tuple #[.int .i64 0, .bool true]) ?_ rfl ⟨by rw [HV.out], KR.out⟩
      simp [results, Tryz.results76, go_sem]
end Go.Proofs.YtiohiiekaofkbaaGreatDoor
/- Are bytes a text, by the reference: dobbyref14.text. -/
namespace Go.Proofs.YtiohiiekaofkbaaGreatDoor
set_option linter.unusedVariables false
set_option linter.unusedSimpArgs false
open Go.RowKit Go.Proofs.YtiohiiekaofkbaaGreatDoor.PNamesReads Go.Proofs.YtiohiiekaofkbaaGreatDoorW.PrintWords
set_option maxRecDepth 100000 in
set_option maxHeartbeats 1000000 in
theorem rtext_walk (s : ByteArray) (w : World) (hs : s.size ≤ 1000000000) : Calls Tryz.prog 51 #[.string s] w (fun e w' => e = .returned (.bool (vld s)) ∧ Below w.heap.size w w') := by
  have hn := refNeed_walk s w hs
  have hv : vld s = ((need (ns s)).2 && (need (ns s)).1 == 0) := rfl
  rcases hR : need (ns s) with ⟨k, is⟩
  rw [hR] at hn hv
  simp only at hn hv
  have HN := hid hn
  rw [hv]
  clear hn hv hR
  go_enter Tryz.func51, Tryz.ntmps51
  go_wp2_with (first | (go_at_call 76; ((with_reducible refine HN.out.mono ?_); rintro e w' ⟨rfl, hb1⟩)))
  all_goals
    go_ret
    refine ⟨ret_bool ?_, hb1⟩
    first | rfl | (simp [*]; done)
end Go.Proofs.YtiohiiekaofkbaaGreatDoor
/- Contract of Sizes. -/
namespace Go.Proofs.YtiohiiekaofkbaaGreatDoor
set_option linter.unusedVariables false
set_option linter.unusedSimpArgs false
open Go.RowKit
def szLow (a d r : Int) : Int := if 1099511627776 ≤ r ∨ 1099511627776 ≤ d then a else max a (r - d)
def szHigh (b c r : Int) : Int := if 1099511627776 ≤ r then b else min b (r - c)
def szNone (d r : Int) : Prop := 1099511627776 ≤ r ∧ d < 1099511627776
instance (d r : Int) : Decidable (szNone d r) := inferInstanceAs (Decidable (_ ∧ _))
def szL (a b c d r : Int) : Int := if szNone d r then 1 else wiL (szLow a d r) (szHigh b c r)
def szH (a b c d r : Int) : Int := if szNone d r then 0 else wiH (szLow a d r) (szHigh b c r)
set_option maxHeartbeats 1000000 in
theorem sizes_none (a b c d r : Int) (w : World) (h1 : 1099511627776 ≤ r) (h2 : d < 1099511627776) (ha : 0 ≤ a) (ha2 : a ≤ 274877906944) (hb : 0 ≤ b) (hb2 : b ≤ 9223372036854775807) (hc : 0 ≤ c) (hc2 : c ≤ 274877906944) (hd : 0 ≤ d) (hd2 : d ≤ 9223372036854775807) (hr : 0 ≤ r) (hr2 : r ≤ 1099511627776) (hw : 2 < w.heap.size) (g0 : w.cell? ⟨2, 0, none⟩ = some (.int .u64 1)) (g1 : w.cell? ⟨2, 1, none⟩ = some (.int .u64 0)) :
    Calls Tryz.prog 43 #[.agg #[.int .i64 a, .int .i64 b], .agg #[.int .i64 c, .int .i64 d], .int .i64 r] w fun e w' => e = .returned (.agg #[.int .u64 1, .int .u64 0]) ∧ Below w.heap.size w w' := by
  obtain ⟨hG1, hG2, hG3, hG4, hG5, hG6⟩ := glob_far hw g0; obtain ⟨hH1, hH2, hH3, hH4, hH5, hH6⟩ := glob_far hw g1
  go_enter Tryz.func43, Tryz.ntmps43
  go_wp2_with fail
  go_region
  all_goals
    go_wp2
    refine bodyPost_ret (v := .agg #[.int .u64 1, .int .u64 0]) ?_ rfl ⟨rfl, bel⟩
    simp [results, Tryz.results43, go_sem]
set_option maxHeartbeats 1000000 in
theorem sizes_a (a b c d r : Int) (w : World) (h1 : 1099511627776 ≤ r) (h2 : 1099511627776 ≤ d) (ha : 0 ≤ a) (ha2 : a ≤ 274877906944) (hb : 0 ≤ b) (hb2 : b ≤ 9223372036854775807) (hc : 0 ≤ c) (hc2 : c ≤ 274877906944) (hd : 0 ≤ d) (hd2 : d ≤ 9223372036854775807) (hr : 0 ≤ r) (hr2 : r ≤ 1099511627776) (hw : 2 < w.heap.size) (g0 : w.cell? ⟨2, 0, none⟩ = some (.int .u64 1)) (g1 : w.cell? ⟨2, 1, none⟩ = some (.int .u64 0)) :
    Calls Tryz.prog 43 #[.agg #[.int .i64 a, .int .i64 b], .agg #[.int .i64 c, .int .i64 d], .int .i64 r] w fun e w' => e = .returned (.agg #[.int .u64 (wiL (a) (b)), .int .u64 (wiH (a) (b))]) ∧ Below w.heap.size w w' := by
  obtain ⟨hG1, hG2, hG3, hG4, hG5, hG6⟩ := glob_far hw g0; obtain ⟨hH1, hH2, hH3, hH4, hH5, hH6⟩ := glob_far hw g1
  go_enter Tryz.func43, Tryz.ntmps43
  go_wp2_with fail
  go_region
  all_goals
    go_wp2_with (first | (go_at_call 63; refine (within_any _ _ _ (by omega) (by omega) (by omega) (by omega) (by first | exact Nat.le_refl _ | (simp; done) | (simp; omega) | omega) (by go_simp) (by go_simp)).mono ?_; rintro e w' ⟨rfl, hb1⟩; (first | have hq1 := hz1 | have hq1 := True.intro); (first | have hq0 := hz0 | have hq0 := True.intro); obtain ⟨hcc, hff⟩ := bcell hb1; have hz1 := hb1.size; (try simp at hz1); (try have hy1 := Nat.lt_of_lt_of_le hq1 hz1); (try have hy0 := Nat.lt_of_lt_of_le hq0 hz1); (try replace hz1 := Nat.lt_of_succ_le hz1); (try have hz0 := Nat.lt_of_succ_lt hz1)) | go_in)
    all_goals
      obtain ⟨q0, q1⟩ := set2 (W := w') (g := w.heap.size + 1 + 1) (x := .int .u64 0) (y := .int .u64 0) (u := .int .u64 (wiL (a) (b))) (v := .int .u64 (wiH (a) (b))) (by go_simp) (by go_simp)
      refine bodyPost_ret (v := .agg #[.int .u64 (wiL (a) (b)), .int .u64 (wiH (a) (b))]) ?_ rfl ⟨rfl, bel⟩
      simp [results, Tryz.results43, go_sem, q0, q1]
set_option maxHeartbeats 1000000 in
theorem sizes_b1 (a b c d r : Int) (w : World) (h1 : r < 1099511627776) (h2 : 1099511627776 ≤ d) (h3 : b ≤ r - c) (ha : 0 ≤ a) (ha2 : a ≤ 274877906944) (hb : 0 ≤ b) (hb2 : b ≤ 9223372036854775807) (hc : 0 ≤ c) (hc2 : c ≤ 274877906944) (hd : 0 ≤ d) (hd2 : d ≤ 9223372036854775807) (hr : 0 ≤ r) (hr2 : r ≤ 1099511627776) (hw : 2 < w.heap.size) (g0 : w.cell? ⟨2, 0, none⟩ = some (.int .u64 1)) (g1 : w.cell? ⟨2, 1, none⟩ = some (.int .u64 0)) :
    Calls Tryz.prog 43 #[.agg #[.int .i64 a, .int .i64 b], .agg #[.int .i64 c, .int .i64 d], .int .i64 r] w fun e w' => e = .returned (.agg #[.int .u64 (wiL (a) (b)), .int .u64 (wiH (a) (b))]) ∧ Below w.heap.size w w' := by
  obtain ⟨hG1, hG2, hG3, hG4, hG5, hG6⟩ := glob_far hw g0; obtain ⟨hH1, hH2, hH3, hH4, hH5, hH6⟩ := glob_far hw g1
  go_enter Tryz.func43, Tryz.ntmps43
  go_wp2_with fail
  go_region
  all_goals
    go_wp2_with (first | (go_at_call 63; refine (within_any _ _ _ (by omega) (by omega) (by omega) (by omega) (by first | exact Nat.le_refl _ | (simp; done) | (simp; omega) | omega) (by go_simp) (by go_simp)).mono ?_; rintro e w' ⟨rfl, hb1⟩; (first | have hq1 := hz1 | have hq1 := True.intro); (first | have hq0 := hz0 | have hq0 := True.intro); obtain ⟨hcc, hff⟩ := bcell hb1; have hz1 := hb1.size; (try simp at hz1); (try have hy1 := Nat.lt_of_lt_of_le hq1 hz1); (try have hy0 := Nat.lt_of_lt_of_le hq0 hz1); (try replace hz1 := Nat.lt_of_succ_le hz1); (try have hz0 := Nat.lt_of_succ_lt hz1)) | go_in)
    all_goals
      obtain ⟨q0, q1⟩ := set2 (W := w') (g := w.heap.size + 1 + 1) (x := .int .u64 0) (y := .int .u64 0) (u := .int .u64 (wiL (a) (b))) (v := .int .u64 (wiH (a) (b))) (by go_simp) (by go_simp)
      refine bodyPost_ret (v := .agg #[.int .u64 (wiL (a) (b)), .int .u64 (wiH (a) (b))]) ?_ rfl ⟨rfl, bel⟩
      simp [results, Tryz.results43, go_sem, q0, q1]
set_option maxHeartbeats 1000000 in
theorem sizes_c11 (a b c d r : Int) (w : World) (h1 : r < 1099511627776) (h2 : d < 1099511627776) (h3 : b ≤ r - c) (h4 : r - d ≤ a) (ha : 0 ≤ a) (ha2 : a ≤ 274877906944) (hb : 0 ≤ b) (hb2 : b ≤ 9223372036854775807) (hc : 0 ≤ c) (hc2 : c ≤ 274877906944) (hd : 0 ≤ d) (hd2 : d ≤ 9223372036854775807) (hr : 0 ≤ r) (hr2 : r ≤ 1099511627776) (hw : 2 < w.heap.size) (g0 : w.cell? ⟨2, 0, none⟩ = some (.int .u64 1)) (g1 : w.cell? ⟨2, 1, none⟩ = some (.int .u64 0)) :
    Calls Tryz.prog 43 #[.agg #[.int .i64 a, .int .i64 b], .agg #[.int .i64 c, .int .i64 d], .int .i64 r] w fun e w' => e = .returned (.agg #[.int .u64 (wiL (a) (b)), .int .u64 (wiH (a) (b))]) ∧ Below w.heap.size w w' := by
  obtain ⟨hG1, hG2, hG3, hG4, hG5, hG6⟩ := glob_far hw g0; obtain ⟨hH1, hH2, hH3, hH4, hH5, hH6⟩ := glob_far hw g1
  go_enter Tryz.func43, Tryz.ntmps43
  go_wp2_with fail
  go_region
  all_goals
    go_wp2_with (first | (go_at_call 63; refine (within_any _ _ _ (by omega) (by omega) (by omega) (by omega) (by first | exact Nat.le_refl _ | (simp; done) | (simp; omega) | omega) (by go_simp) (by go_simp)).mono ?_; rintro e w' ⟨rfl, hb1⟩; (first | have hq1 := hz1 | have hq1 := True.intro); (first | have hq0 := hz0 | have hq0 := True.intro); obtain ⟨hcc, hff⟩ := bcell hb1; have hz1 := hb1.size; (try simp at hz1); (try have hy1 := Nat.lt_of_lt_of_le hq1 hz1); (try have hy0 := Nat.lt_of_lt_of_le hq0 hz1); (try replace hz1 := Nat.lt_of_succ_le hz1); (try have hz0 := Nat.lt_of_succ_lt hz1)) | go_in)
    all_goals
      obtain ⟨q0, q1⟩ := set2 (W := w') (g := w.heap.size + 1 + 1) (x := .int .u64 0) (y := .int .u64 0) (u := .int .u64 (wiL (a) (b))) (v := .int .u64 (wiH (a) (b))) (by go_simp) (by go_simp)
      refine bodyPost_ret (v := .agg #[.int .u64 (wiL (a) (b)), .int .u64 (wiH (a) (b))]) ?_ rfl ⟨rfl, bel⟩
      simp [results, Tryz.results43, go_sem, q0, q1]
set_option maxHeartbeats 1000000 in
theorem sizes_c12 (a b c d r : Int) (w : World) (h1 : r < 1099511627776) (h2 : d < 1099511627776) (h3 : b ≤ r - c) (h4 : a < r - d) (ha : 0 ≤ a) (ha2 : a ≤ 274877906944) (hb : 0 ≤ b) (hb2 : b ≤ 9223372036854775807) (hc : 0 ≤ c) (hc2 : c ≤ 274877906944) (hd : 0 ≤ d) (hd2 : d ≤ 9223372036854775807) (hr : 0 ≤ r) (hr2 : r ≤ 1099511627776) (hw : 2 < w.heap.size) (g0 : w.cell? ⟨2, 0, none⟩ = some (.int .u64 1)) (g1 : w.cell? ⟨2, 1, none⟩ = some (.int .u64 0)) :
    Calls Tryz.prog 43 #[.agg #[.int .i64 a, .int .i64 b], .agg #[.int .i64 c, .int .i64 d], .int .i64 r] w fun e w' => e = .returned (.agg #[.int .u64 (wiL (r - d) (b)), .int .u64 (wiH (r - d) (b))]) ∧ Below w.heap.size w w' := by
  obtain ⟨hG1, hG2, hG3, hG4, hG5, hG6⟩ := glob_far hw g0; obtain ⟨hH1, hH2, hH3, hH4, hH5, hH6⟩ := glob_far hw g1
  go_enter Tryz.func43, Tryz.ntmps43
  go_wp2_with fail
  go_region
  all_goals
    go_wp2_with (first | (go_at_call 63; refine (within_any _ _ _ (by omega) (by omega) (by omega) (by omega) (by first | exact Nat.le_refl _ | (simp; done) | (simp; omega) | omega) (by go_simp) (by go_simp)).mono ?_; rintro e w' ⟨rfl, hb1⟩; (first | have hq1 := hz1 | have hq1 := True.intro); (first | have hq0 := hz0 | have hq0 := True.intro); obtain ⟨hcc, hff⟩ := bcell hb1; have hz1 := hb1.size; (try simp at hz1); (try have hy1 := Nat.lt_of_lt_of_le hq1 hz1); (try have hy0 := Nat.lt_of_lt_of_le hq0 hz1); (try replace hz1 := Nat.lt_of_succ_le hz1); (try have hz0 := Nat.lt_of_succ_lt hz1)) | go_in)
    all_goals
      obtain ⟨q0, q1⟩ := set2 (W := w') (g := w.heap.size + 1 + 1) (x := .int .u64 0) (y := .int .u64 0) (u := .int .u64 (wiL (r - d) (b))) (v := .int .u64 (wiH (r - d) (b))) (by go_simp) (by go_simp)
      refine bodyPost_ret (v := .agg #[.int .u64 (wiL (r - d) (b)), .int .u64 (wiH (r - d) (b))]) ?_ rfl ⟨rfl, bel⟩
      simp [results, Tryz.results43, go_sem, q0, q1]
set_option maxHeartbeats 1000000 in
theorem sizes_b2 (a b c d r : Int) (w : World) (h1 : r < 1099511627776) (h2 : 1099511627776 ≤ d) (h3 : r - c < b) (ha : 0 ≤ a) (ha2 : a ≤ 274877906944) (hb : 0 ≤ b) (hb2 : b ≤ 9223372036854775807) (hc : 0 ≤ c) (hc2 : c ≤ 274877906944) (hd : 0 ≤ d) (hd2 : d ≤ 9223372036854775807) (hr : 0 ≤ r) (hr2 : r ≤ 1099511627776) (hw : 2 < w.heap.size) (g0 : w.cell? ⟨2, 0, none⟩ = some (.int .u64 1)) (g1 : w.cell? ⟨2, 1, none⟩ = some (.int .u64 0)) :
    Calls Tryz.prog 43 #[.agg #[.int .i64 a, .int .i64 b], .agg #[.int .i64 c, .int .i64 d], .int .i64 r] w fun e w' => e = .returned (.agg #[.int .u64 (wiL (a) (r - c)), .int .u64 (wiH (a) (r - c))]) ∧ Below w.heap.size w w' := by
  obtain ⟨hG1, hG2, hG3, hG4, hG5, hG6⟩ := glob_far hw g0; obtain ⟨hH1, hH2, hH3, hH4, hH5, hH6⟩ := glob_far hw g1
  go_enter Tryz.func43, Tryz.ntmps43
  go_wp2_with fail
  go_region
  all_goals
    go_wp2_with (first | (go_at_call 63; refine (within_any _ _ _ (by omega) (by omega) (by omega) (by omega) (by first | exact Nat.le_refl _ | (simp; done) | (simp; omega) | omega) (by go_simp) (by go_simp)).mono ?_; rintro e w' ⟨rfl, hb1⟩; (first | have hq1 := hz1 | have hq1 := True.intro); (first | have hq0 := hz0 | have hq0 := True.intro); obtain ⟨hcc, hff⟩ := bcell hb1; have hz1 := hb1.size; (try simp at hz1); (try have hy1 := Nat.lt_of_lt_of_le hq1 hz1); (try have hy0 := Nat.lt_of_lt_of_le hq0 hz1); (try replace hz1 := Nat.lt_of_succ_le hz1); (try have hz0 := Nat.lt_of_succ_lt hz1)) | go_in)
    all_goals
      obtain ⟨q0, q1⟩ := set2 (W := w') (g := w.heap.size + 1 + 1) (x := .int .u64 0) (y := .int .u64 0) (u := .int .u64 (wiL (a) (r - c))) (v := .int .u64 (wiH (a) (r - c))) (by go_simp) (by go_simp)
      refine bodyPost_ret (v := .agg #[.int .u64 (wiL (a) (r - c)), .int .u64 (wiH (a) (r - c))]) ?_ rfl ⟨rfl, bel⟩
      simp [results, Tryz.results43, go_sem, q0, q1]
set_option maxHeartbeats 1000000 in
theorem sizes_c21 (a b c d r : Int) (w : World) (h1 : r < 1099511627776) (h2 : d < 1099511627776) (h3 : r - c < b) (h4 : r - d ≤ a) (ha : 0 ≤ a) (ha2 : a ≤ 274877906944) (hb : 0 ≤ b) (hb2 : b ≤ 9223372036854775807) (hc : 0 ≤ c) (hc2 : c ≤ 274877906944) (hd : 0 ≤ d) (hd2 : d ≤ 9223372036854775807) (hr : 0 ≤ r) (hr2 : r ≤ 1099511627776) (hw : 2 < w.heap.size) (g0 : w.cell? ⟨2, 0, none⟩ = some (.int .u64 1)) (g1 : w.cell? ⟨2, 1, none⟩ = some (.int .u64 0)) :
    Calls Tryz.prog 43 #[.agg #[.int .i64 a, .int .i64 b], .agg #[.int .i64 c, .int .i64 d], .int .i64 r] w fun e w' => e = .returned (.agg #[.int .u64 (wiL (a) (r - c)), .int .u64 (wiH (a) (r - c))]) ∧ Below w.heap.size w w' := by
  obtain ⟨hG1, hG2, hG3, hG4, hG5, hG6⟩ := glob_far hw g0; obtain ⟨hH1, hH2, hH3, hH4, hH5, hH6⟩ := glob_far hw g1
  go_enter Tryz.func43, Tryz.ntmps43
  go_wp2_with fail
  go_region
  all_goals
    go_wp2_with (first | (go_at_call 63; refine (within_any _ _ _ (by omega) (by omega) (by omega) (by omega) (by first | exact Nat.le_refl _ | (simp; done) | (simp; omega) | omega) (by go_simp) (by go_simp)).mono ?_; rintro e w' ⟨rfl, hb1⟩; (first | have hq1 := hz1 | have hq1 := True.intro); (first | have hq0 := hz0 | have hq0 := True.intro); obtain ⟨hcc, hff⟩ := bcell hb1; have hz1 := hb1.size; (try simp at hz1); (try have hy1 := Nat.lt_of_lt_of_le hq1 hz1); (try have hy0 := Nat.lt_of_lt_of_le hq0 hz1); (try replace hz1 := Nat.lt_of_succ_le hz1); (try have hz0 := Nat.lt_of_succ_lt hz1)) | go_in)
    all_goals
      obtain ⟨q0, q1⟩ := set2 (W := w') (g := w.heap.size + 1 + 1) (x := .int .u64 0) (y := .int .u64 0) (u := .int .u64 (wiL (a) (r - c))) (v := .int .u64 (wiH (a) (r - c))) (by go_simp) (by go_simp)
      refine bodyPost_ret (v := .agg #[.int .u64 (wiL (a) (r - c)), .int .u64 (wiH (a) (r - c))]) ?_ rfl ⟨rfl, bel⟩
      simp [results, Tryz.results43, go_sem, q0, q1]
set_option maxHeartbeats 1000000 in
theorem sizes_c22 (a b c d r : Int) (w : World) (h1 : r < 1099511627776) (h2 : d < 1099511627776) (h3 : r - c < b) (h4 : a < r - d) (ha : 0 ≤ a) (ha2 : a ≤ 274877906944) (hb : 0 ≤ b) (hb2 : b ≤ 9223372036854775807) (hc : 0 ≤ c) (hc2 : c ≤ 274877906944) (hd : 0 ≤ d) (hd2 : d ≤ 9223372036854775807) (hr : 0 ≤ r) (hr2 : r ≤ 1099511627776) (hw : 2 < w.heap.size) (g0 : w.cell? ⟨2, 0, none⟩ = some (.int .u64 1)) (g1 : w.cell? ⟨2, 1, none⟩ = some (.int .u64 0)) :
    Calls Tryz.prog 43 #[.agg #[.int .i64 a, .int .i64 b], .agg #[.int .i64 c, .int .i64 d], .int .i64 r] w fun e w' => e = .returned (.agg #[.int .u64 (wiL (r - d) (r - c)), .int .u64 (wiH (r - d) (r - c))]) ∧ Below w.heap.size w w' := by
  obtain ⟨hG1, hG2, hG3, hG4, hG5, hG6⟩ := glob_far hw g0; obtain ⟨hH1, hH2, hH3, hH4, hH5, hH6⟩ := glob_far hw g1
  go_enter Tryz.func43, Tryz.ntmps43
  go_wp2_with fail
  go_region
  all_goals
    go_wp2_with (first | (go_at_call 63; refine (within_any _ _ _ (by omega) (by omega) (by omega) (by omega) (by first | exact Nat.le_refl _ | (simp; done) | (simp; omega) | omega) (by go_simp) (by go_simp)).mono ?_; rintro e w' ⟨rfl, hb1⟩; (first | have hq1 := hz1 | have hq1 := True.intro); (first | have hq0 := hz0 | have hq0 := True.intro); obtain ⟨hcc, hff⟩ := bcell hb1; have hz1 := hb1.size; (try simp at hz1); (try have hy1 := Nat.lt_of_lt_of_le hq1 hz1); (try have hy0 := Nat.lt_of_lt_of_le hq0 hz1); (try replace hz1 := Nat.lt_of_succ_le hz1); (try have hz0 := Nat.lt_of_succ_lt hz1)) | go_in)
    all_goals
      obtain ⟨q0, q1⟩ := set2 (W := w') (g := w.heap.size + 1 + 1) (x := .int .u64 0) (y := .int .u64 0) (u := .int .u64 (wiL (r - d) (r - c))) (v := .int .u64 (wiH (r - d) (r - c))) (by go_simp) (by go_simp)
      refine bodyPost_ret (v := .agg #[.int .u64 (wiL (r - d) (r - c)), .int .u64 (wiH (r - d) (r - c))]) ?_ rfl ⟨rfl, bel⟩
      simp [results, Tryz.results43, go_sem, q0, q1]
theorem sizes_any (a b c d r : Int) (w : World) (ha : 0 ≤ a) (ha2 : a ≤ 274877906944) (hb : 0 ≤ b) (hb2 : b ≤ 9223372036854775807) (hc : 0 ≤ c) (hc2 : c ≤ 274877906944) (hd : 0 ≤ d) (hd2 : d ≤ 9223372036854775807) (hr : 0 ≤ r) (hr2 : r ≤ 1099511627776) (hw : 2 < w.heap.size) (g0 : w.cell? ⟨2, 0, none⟩ = some (.int .u64 1)) (g1 : w.cell? ⟨2, 1, none⟩ = some (.int .u64 0)) :
    Calls Tryz.prog 43 #[.agg #[.int .i64 a, .int .i64 b], .agg #[.int .i64 c, .int .i64 d], .int .i64 r] w fun e w' => e = .returned (.agg #[.int .u64 (szL a b c d r), .int .u64 (szH a b c d r)]) ∧ Below w.heap.size w w' := by
  obtain ⟨hG1, hG2, hG3, hG4, hG5, hG6⟩ := glob_far hw g0; obtain ⟨hH1, hH2, hH3, hH4, hH5, hH6⟩ := glob_far hw g1
  by_cases hn : szNone d r
  · have e1 : szL a b c d r = 1 := by unfold szL; rw [if_pos hn]
    have e2 : szH a b c d r = 0 := by unfold szH; rw [if_pos hn]
    rw [e1, e2]
    exact sizes_none a b c d r w hn.1 hn.2 ha ha2 hb hb2 hc hc2 hd hd2 hr hr2 hw g0 g1
  · have e1 : szL a b c d r = wiL (szLow a d r) (szHigh b c r) := by unfold szL; rw [if_neg hn]
    have e2 : szH a b c d r = wiH (szLow a d r) (szHigh b c r) := by unfold szH; rw [if_neg hn]
    rw [e1, e2]
    unfold szNone at hn
    by_cases h1 : 1099511627776 ≤ r
    · rw [show szLow a d r = a by unfold szLow; rw [if_pos (.inl h1)], show szHigh b c r = b by unfold szHigh; rw [if_pos h1]]
      exact sizes_a a b c d r w h1 (by omega) ha ha2 hb hb2 hc hc2 hd hd2 hr hr2 hw g0 g1
    · by_cases h2 : 1099511627776 ≤ d
      · rw [show szLow a d r = a by unfold szLow; rw [if_pos (.inr h2)]]
        by_cases h3 : b ≤ r - c
        · rw [show szHigh b c r = b by unfold szHigh; rw [if_neg h1]; omega]
          exact sizes_b1 a b c d r w (by omega) h2 h3 ha ha2 hb hb2 hc hc2 hd hd2 hr hr2 hw g0 g1
        · rw [show szHigh b c r = r - c by unfold szHigh; rw [if_neg h1]; omega]
          exact sizes_b2 a b c d r w (by omega) h2 (by omega) ha ha2 hb hb2 hc hc2 hd hd2 hr hr2 hw g0 g1
      · by_cases h4 : r - d ≤ a
        · rw [show szLow a d r = a by unfold szLow; rw [if_neg (by omega)]; omega]
          by_cases h3 : b ≤ r - c
          · rw [show szHigh b c r = b by unfold szHigh; rw [if_neg h1]; omega]
            exact sizes_c11 a b c d r w (by omega) (by omega) h3 h4 ha ha2 hb hb2 hc hc2 hd hd2 hr hr2 hw g0 g1
          · rw [show szHigh b c r = r - c by unfold szHigh; rw [if_neg h1]; omega]
            exact sizes_c21 a b c d r w (by omega) (by omega) (by omega) h4 ha ha2 hb hb2 hc hc2 hd hd2 hr hr2 hw g0 g1
        · rw [show szLow a d r = r - d by unfold szLow; rw [if_neg (by omega)]; omega]
          by_cases h3 : b ≤ r - c
          · rw [show szHigh b c r = b by unfold szHigh; rw [if_neg h1]; omega]
            exact sizes_c12 a b c d r w (by omega) (by omega) h3 (by omega) ha ha2 hb hb2 hc hc2 hd hd2 hr hr2 hw g0 g1
          · rw [show szHigh b c r = r - c by unfold szHigh; rw [if_neg h1]; omega]
            exact sizes_c22 a b c d r w (by omega) (by omega) (by omega) (by omega) ha ha2 hb hb2 hc hc2 hd hd2 hr hr2 hw g0 g1
end Go.Proofs.YtiohiiekaofkbaaGreatDoor
/- The names' readers: their globals, wtype.Index and List (as in n_C11), which indexes may come. -/
namespace Go.Proofs.YtiohiiekaofkbaaGreatDoor
set_option linter.unusedVariables false
set_option linter.unusedSimpArgs false
open Go.RowKit
theorem index_walk (a b : Int) (w : World) : Calls Tryz.prog 70 #[.agg #[.int .i64 a, .int .i64 b]] w (fun e w' => e = .returned (.func (.func 89) #[] #[.pointer (some ⟨w.heap.size, 0, none⟩)]) ∧ Below w.heap.size w w' ∧ w.heap.size < w'.heap.size ∧ w'.cell? ⟨w.heap.size, 0, none⟩ = some (.int .i64 a) ∧ w'.cell? ⟨w.heap.size, 1, none⟩ = some (.int .i64 b)) := by
  have hmf : ∀ (fn : Fn) (first cap : Array Value) (w : World), (Instr.makeFunc fn first cap).run Tryz.prog w = .ok (.func fn first cap) w := fun _ _ _ _ => rfl
  go_enter Tryz.func70, Tryz.ntmps70
  go_wp2
  go_ret
  exact ⟨rfl, bel, by simp, by go_simp, by go_simp⟩
theorem list_walk (a b c d : Int) (w : World) : Calls Tryz.prog 67 #[.agg #[.int .i64 a, .int .i64 b], .agg #[.int .i64 c, .int .i64 d]] w (fun e w' => e = .returned (.func (.func 87) #[] #[.pointer (some ⟨w.heap.size, 0, none⟩), .pointer (some ⟨w.heap.size + 1, 0, none⟩)]) ∧ Below w.heap.size w w' ∧ w.heap.size + 1 < w'.heap.size ∧ w'.cell? ⟨w.heap.size, 0, none⟩ = some (.int .i64 a) ∧ w'.cell? ⟨w.heap.size, 1, none⟩ = some (.int .i64 b) ∧ w'.cell? ⟨w.heap.size + 1, 0, none⟩ = some (.int .i64 c) ∧ w'.cell? ⟨w.heap.size + 1, 1, none⟩ = some (.int .i64 d)) := by
  have hmf : ∀ (fn : Fn) (first cap : Array Value) (w : World), (Instr.makeFunc fn first cap).run Tryz.prog w = .ok (.func fn first cap) w := fun _ _ _ _ => rfl
  go_enter Tryz.func67, Tryz.ntmps67
  go_wp2
  go_ret
  exact ⟨rfl, bel, by simp, by go_simp, by go_simp, by go_simp, by go_simp⟩
structure GlobM (w : World) : Prop where
  a0 : w.cell? ⟨3, 0, none⟩ = some (.int .i64 2)
  a1 : w.cell? ⟨3, 1, none⟩ = some (.int .i64 1099511627776)
  s0 : w.cell? ⟨0, 0, none⟩ = some (.int .i64 1)
  s1 : w.cell? ⟨0, 1, none⟩ = some (.int .i64 1099511627776)
  n0 : w.cell? ⟨1, 0, none⟩ = some (.int .i64 0)
  n1 : w.cell? ⟨1, 1, none⟩ = some (.int .i64 0)
theorem GlobM.below {w W : World} (h : GlobM w) (hb : Below w.heap.size w W) : GlobM W := ⟨still hb h.a0, still hb h.a1, still hb h.s0, still hb h.s1, still hb h.n0, still hb h.n1⟩
structure GlobH (g : Nat) (w : World) : Prop where
  gl : Glob w
  gm : GlobM w
  h0 : 2 ≠ g
  h1 : 3 ≠ g
  h2 : 0 ≠ g
  h3 : 1 ≠ g
theorem GlobH.rd {g : Nat} {w W : World} (h : GlobH g w) (hR : Rd g w W) : GlobH g W :=
  ⟨h.gl.rd h.h0 hR, ⟨hR.cell h.h1 h.gm.a0, hR.cell h.h1 h.gm.a1, hR.cell h.h2 h.gm.s0, hR.cell h.h2 h.gm.s1, hR.cell h.h3 h.gm.n0, hR.cell h.h3 h.gm.n1⟩, h.h0, h.h1, h.h2, h.h3⟩
def rgX (nx mn r : Int) : List (Int × Int) := if chB mn 1099511627776 r = true then [(nx, 4294967295)] else []
theorem rgI_len (a b r : Int) : (rgI a b r).length = if chB a b r = true then 1 else 0 := by unfold rgI; split <;> rfl
set_option maxHeartbeats 1000000 in
theorem rise1_N (T X B : Nat) (nx mn r : Int) (W : World) (hT : W.cell? ⟨T, 0, none⟩ = some (.func (.func 89) #[] #[.pointer (some ⟨B, 0, none⟩)])) (hX : W.cell? ⟨X, 0, none⟩ = some (.int .u64 nx)) (h0 : W.cell? ⟨B, 0, none⟩ = some (.int .i64 mn)) (h1 : W.cell? ⟨B, 1, none⟩ = some (.int .i64 1099511627776)) (hn0 : 0 ≤ nx) (hn1 : nx ≤ 18446744073709551615) :
    Calls Tryz.prog 71 #[.int .i64 r, .pointer (some ⟨T, 0, none⟩), .pointer (some ⟨X, 0, none⟩)] W (fun e w' => ∃ A k, e = .returned (.slice A (rgX nx mn r).length k) ∧ RowR w' A (rgX nx mn r) ∧ Below W.heap.size W w') := by
  have HI := hid (index1_walk B mn 1099511627776 r W h0 h1)
  rw [rgI_len] at HI
  have HE : ∀ (args : Array Value) (w : World), (callFunc 89 args).run Tryz.prog w = .ok (.enter 89 args) w := enters Tryz.func89 (by kernel_rfl) rfl
  rcases hc : chB mn 1099511627776 r with _ | _
  · have e : rgX nx mn r = [] := by rw [rgX, hc]; rfl
    rw [e]
    rw [hc, if_neg (by simp)] at HI
    clear hc e
    go_enter Tryz.func71, Tryz.ntmps71
    go_wp2_with (first | ((with_reducible refine (HI.out).mono ?_); rintro e w1 ⟨A1, k1, rfl, -, hb1⟩))
    go_ret
    exact ⟨none, 0, rfl, .inl rfl, hb1⟩
  · have e : rgX nx mn r = [(nx, 4294967295)] := by rw [rgX, hc]; rfl
    rw [e]
    rw [hc, if_pos rfl] at HI
    clear hc e
    go_enter Tryz.func71, Tryz.ntmps71
    go_wp2_with (first | ((with_reducible refine (HI.out).mono ?_); rintro e w1 ⟨A1, k1, rfl, -, hb1⟩; have hX := still hb1 hX))
    go_ret
    refine ⟨some ⟨w1.heap.size, 0, none⟩, 1, rfl, .inr ⟨_, rfl, by simp, ?_⟩, hb1.alloc hb1.size _⟩
    intro i hi
    have : i = 0 := by simp at hi; omega
    subst this
    exact ⟨by simp only [List.getElem_cons_zero]; go_simp, by simp only [List.getElem_cons_zero]; go_simp, hn0, hn1, (by show (0 : Int) ≤ 4294967295; decide), (by show (4294967295 : Int) ≤ 18446744073709551615; decide)⟩
theorem rise1_wants_N {g T X B : Nat} {nx mn : Int} {w : World} (hT : T ≠ g) (hX : X ≠ g) (hB : B ≠ g) (cT : w.cell? ⟨T, 0, none⟩ = some (.func (.func 89) #[] #[.pointer (some ⟨B, 0, none⟩)])) (cX : w.cell? ⟨X, 0, none⟩ = some (.int .u64 nx)) (c0 : w.cell? ⟨B, 0, none⟩ = some (.int .i64 mn)) (c1 : w.cell? ⟨B, 1, none⟩ = some (.int .i64 1099511627776)) (hn0 : 0 ≤ nx) (hn1 : nx ≤ 18446744073709551615) :
    Wants g 71 #[.pointer (some ⟨T, 0, none⟩), .pointer (some ⟨X, 0, none⟩)] w (rgX nx mn) :=
  ⟨enters Tryz.func71 (by kernel_rfl) rfl, fun r => by unfold rgX; split <;> simp, fun r r0 r1 W hW => rise1_N T X B nx mn r W (hW.cell hT cT) (hW.cell hX cX) (hW.cell hB c0) (hW.cell hB c1) hn0 hn1⟩
set_option maxHeartbeats 1000000 in
theorem rise1_L (T X B : Nat) (nx mn r : Int) (W : World) (hT : W.cell? ⟨T, 0, none⟩ = some (.func (.func 89) #[] #[.pointer (some ⟨B, 0, none⟩)])) (hX : W.cell? ⟨X, 0, none⟩ = some (.int .u64 nx)) (h0 : W.cell? ⟨B, 0, none⟩ = some (.int .i64 mn)) (h1 : W.cell? ⟨B, 1, none⟩ = some (.int .i64 1099511627776)) (hn0 : 0 ≤ nx) (hn1 : nx ≤ 18446744073709551615) :
    Calls Tryz.prog 73 #[.int .i64 r, .pointer (some ⟨T, 0, none⟩), .pointer (some ⟨X, 0, none⟩)] W (fun e w' => ∃ A k, e = .returned (.slice A (rgX nx mn r).length k) ∧ RowR w' A (rgX nx mn r) ∧ Below W.heap.size W w') := by
  have HI := hid (index1_walk B mn 1099511627776 r W h0 h1)
  rw [rgI_len] at HI
  have HE : ∀ (args : Array Value) (w : World), (callFunc 89 args).run Tryz.prog w = .ok (.enter 89 args) w := enters Tryz.func89 (by kernel_rfl) rfl
  rcases hc : chB mn 1099511627776 r with _ | _
  · have e : rgX nx mn r = [] := by rw [rgX, hc]; rfl
    rw [e]
    rw [hc, if_neg (by simp)] at HI
    clear hc e
    go_enter Tryz.func73, Tryz.ntmps73
    go_wp2_with (first | ((with_reducible refine (HI.out).mono ?_); rintro e w1 ⟨A1, k1, rfl, -, hb1⟩))
    go_ret
    exact ⟨none, 0, rfl, .inl rfl, hb1⟩
  · have e : rgX nx mn r = [(nx, 4294967295)] := by rw [rgX, hc]; rfl
    rw [e]
    rw [hc, if_pos rfl] at HI
    clear hc e
    go_enter Tryz.func73, Tryz.ntmps73
    go_wp2_with (first | ((with_reducible refine (HI.out).mono ?_); rintro e w1 ⟨A1, k1, rfl, -, hb1⟩; have hX := still hb1 hX))
    go_ret
    refine ⟨some ⟨w1.heap.size, 0, none⟩, 1, rfl, .inr ⟨_, rfl, by simp, ?_⟩, hb1.alloc hb1.size _⟩
    intro i hi
    have : i = 0 := by simp at hi; omega
    subst this
    exact ⟨by simp only [List.getElem_cons_zero]; go_simp, by simp only [List.getElem_cons_zero]; go_simp, hn0, hn1, (by show (0 : Int) ≤ 4294967295; decide), (by show (4294967295 : Int) ≤ 18446744073709551615; decide)⟩
theorem rise1_wants_L {g T X B : Nat} {nx mn : Int} {w : World} (hT : T ≠ g) (hX : X ≠ g) (hB : B ≠ g) (cT : w.cell? ⟨T, 0, none⟩ = some (.func (.func 89) #[] #[.pointer (some ⟨B, 0, none⟩)])) (cX : w.cell? ⟨X, 0, none⟩ = some (.int .u64 nx)) (c0 : w.cell? ⟨B, 0, none⟩ = some (.int .i64 mn)) (c1 : w.cell? ⟨B, 1, none⟩ = some (.int .i64 1099511627776)) (hn0 : 0 ≤ nx) (hn1 : nx ≤ 18446744073709551615) :
    Wants g 73 #[.pointer (some ⟨T, 0, none⟩), .pointer (some ⟨X, 0, none⟩)] w (rgX nx mn) :=
  ⟨enters Tryz.func73 (by kernel_rfl) rfl, fun r => by unfold rgX; split <;> simp, fun r r0 r1 W hW => rise1_L T X B nx mn r W (hW.cell hT cT) (hW.cell hX cX) (hW.cell hB c0) (hW.cell hB c1) hn0 hn1⟩
end Go.Proofs.YtiohiiekaofkbaaGreatDoor
/- What changes only some blocks; bytes in a row. -/
namespace Go.Proofs.YtiohiiekaofkbaaGreatDoor
set_option linter.unusedVariables false
set_option linter.unusedSimpArgs false
open Go.RowKit
structure Fr (P : Nat → Prop) (w w' : World) : Prop where
  os : w'.os = w.os
  tape : w'.tape = w.tape
  output : w'.output = w.output
  size : w.heap.size ≤ w'.heap.size
  block : ∀ i, i < w.heap.size → ¬ P i → w'.heap[i]? = w.heap[i]?
theorem Fr.of_rd {g : Nat} {P : Nat → Prop} {w w' : World} (h : Rd g w w') (hP : P g) : Fr P w w' := ⟨h.os, h.tape, h.output, h.size, fun i hi hn => h.block i hi (fun e => hn (by have := Option.some.inj e; rwa [this]))⟩
theorem Fr.of_below {P : Nat → Prop} {w w' : World} (h : Below w.heap.size w w') : Fr P w w' := ⟨h.os, h.tape, h.output, h.size, fun i hi _ => h.block i hi⟩
theorem Fr.trans {P : Nat → Prop} {a b c : World} (h : Fr P a b) (k : Fr P b c) : Fr P a c :=
  ⟨k.os.trans h.os, k.tape.trans h.tape, k.output.trans h.output, Nat.le_trans h.size k.size, fun i hi hn => (k.block i (Nat.lt_of_lt_of_le hi h.size) hn).trans (h.block i hi hn)⟩
theorem Fr.mono {P Q : Nat → Prop} {a b : World} (h : Fr P a b) (hq : ∀ i, i < a.heap.size → P i → Q i) : Fr Q a b := ⟨h.os, h.tape, h.output, h.size, fun i hi hn => h.block i hi (fun p => hn (hq i hi p))⟩
theorem Fr.set {P : Nat → Prop} {a b : World} (h : Fr P a b) {B i : Nat} (hB : P B) (v : Value) : Fr P a (b.setCell ⟨B, i, none⟩ v) :=
  ⟨h.os, h.tape, h.output, by simpa using h.size, fun k hk hne => by
    rw [heap_setCell_other _ _ _ _ (show k ≠ B by rintro rfl; exact hne hB)]; exact h.block k hk hne⟩
theorem Fr.cell {P : Nat → Prop} {a b : World} (h : Fr P a b) {B i : Nat} {v : Value} (hn : ¬ P B) (hc : a.cell? ⟨B, i, none⟩ = some v) : b.cell? ⟨B, i, none⟩ = some v :=
  (World.cell?_of_block (w := a) (h.block B (cell_lt hc) hn)).trans hc
theorem Fr.below {P : Nat → Prop} {a b : World} (h : Fr P a b) (n : Nat) (hn : n ≤ a.heap.size) (hP : ∀ i, i < n → ¬ P i) : Below n a b :=
  ⟨h.os, h.tape, h.output, h.size, fun i hi => h.block i (Nat.lt_of_lt_of_le hi hn) (hP i hi)⟩
theorem Fr.off {P : Nat → Prop} {B C : Nat} {a b c : World} (h : Fr P a b) (k : Off2 B C b c) (hB : a.heap.size ≤ B) (hC : a.heap.size ≤ C) : Fr P a c :=
  ⟨k.os.trans h.os, k.tape.trans h.tape, k.output.trans h.output, Nat.le_trans h.size k.size, fun i hi hn => (k.block i (Nat.lt_of_lt_of_le hi h.size) (by omega) (by omega)).trans (h.block i hi hn)⟩
theorem BytesAt.fr {A : Option Addr} {l : List Int} {P : Nat → Prop} {w w' : World} (h : BytesAt A l w) (ne : ∀ ad, A = some ad → ¬ P ad.block) (hg : Fr P w w') : BytesAt A l w' := by
  rcases h with h | ⟨ad, rfl, h⟩
  · exact .inl h
  · refine .inr ⟨ad, rfl, fun j x hj => ?_⟩
    have e := h j x hj
    rw [World.cell?_of_block (w := w) (w' := w') (hg.block _ (cell_lt' e) (fun q => ne ad rfl (by rwa [add_block] at q)))]
    exact e
theorem Rd.of_below {g : Nat} {w w' : World} (h : Below w.heap.size w w') : Rd g w w' := grown_of_below h _
theorem CB.set {g V : Nat} {A : Option Addr} {c : Nat} {l : List Int} {p lim : Int} {w : World} (h : CB g A c l p lim w) (hV : V ≠ g) (hA : ∀ ad, A = some ad → ad.block ≠ V) (u : Value) : CB g A c l p lim (w.setCell ⟨V, 0, none⟩ u) := by
  have hb : (w.setCell ⟨V, 0, none⟩ u).heap[g]? = w.heap[g]? := heap_setCell_other _ _ _ _ (fun e => hV e.symm)
  have cc : ∀ i, (w.setCell ⟨V, 0, none⟩ u).cell? ⟨g, i, none⟩ = w.cell? ⟨g, i, none⟩ := fun i => World.cell?_of_block (a := ⟨g, i, none⟩) hb
  have cf : ∀ i, (w.setCell ⟨V, 0, none⟩ u).frozen? ⟨g, i, none⟩ = w.frozen? ⟨g, i, none⟩ := fun i => World.frozen?_of_block (a := ⟨g, i, none⟩) hb
  exact ⟨⟨(cc 0).trans h.cu.c0, (cc 1).trans h.cu.c1, (cc 2).trans h.cu.c2, (cf 1).trans h.cu.f1, (cf 2).trans h.cu.f2⟩,
    h.at_.fr (P := fun i => i = V) (fun ad e => hA ad e) (Fr.set (P := fun i => i = V) (Fr.of_below (Below.refl _ _)) rfl u), h.ne, h.p0, h.p1, h.hl, h.l2, h.b8⟩
end Go.Proofs.YtiohiiekaofkbaaGreatDoor
