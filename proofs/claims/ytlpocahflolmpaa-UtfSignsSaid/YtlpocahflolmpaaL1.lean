/- Plain laws: what is put is taken; a number of fewer bits is one of more. -/
import Derived.Test.YtlpocahflolmpaaL0
namespace Go.Proofs.Ytlpocahflolmpaa
set_option linter.unusedVariables false
set_option linter.unusedSimpArgs false
open Go.RowKit

theorem ends_zero (ok : Int → Bool) (k : Nat) : ∀ (i : Nat) (l : List Int) (n : Int), ends ok i k l = (n, 0) →
    ∃ D x T, l = D ++ x :: T ∧ (∀ y ∈ D, 128 ≤ y) ∧ x < 128 ∧ D.length < k ∧ (D.length + 1 = k → ok x = true) ∧ n = (i : Int) + D.length + 1 := by
  induction k with
  | zero => intro i l n h; simp [ends] at h
  | succ k ih =>
    intro i l n h
    match l with
    | [] => simp [ends] at h
    | x :: t =>
      simp only [ends] at h
      by_cases h1 : k = 0 ∧ (128 ≤ x ∨ ok x = false)
      · rw [if_pos h1] at h; simp at h
      · rw [if_neg h1] at h
        by_cases h2 : x < 128
        · rw [if_pos h2] at h
          have hn := (Prod.mk.inj h).1
          refine ⟨[], x, t, rfl, by simp, h2, by simp, fun hk => ?_, by simp; omega⟩
          rcases hq : ok x with _ | _
          · exact absurd ⟨by simpa using hk.symm, .inr hq⟩ h1
          · rfl
        · rw [if_neg h2] at h
          obtain ⟨D, y, T, e, q1, q2, q3, q4, q5⟩ := ih (i + 1) t n h
          refine ⟨x :: D, y, T, by rw [e]; rfl, ?_, q2, by simp; omega, fun hk => q4 (by simpa using hk), by simp; omega⟩
          intro z hz
          rcases List.mem_cons.1 hz with rfl | hz
          · omega
          · exact q1 z hz

theorem ends_full (ok : Int → Bool) (D : List Int) : ∀ (i k : Nat) (x : Int) (T : List Int), (∀ y ∈ D, 128 ≤ y) → x < 128 → D.length < k → (D.length + 1 = k → ok x = true) → ends ok i k (D ++ x :: T) = ((i : Int) + D.length + 1, 0) := by
  induction D with
  | nil =>
    intro i k x T _ hx hk hok
    obtain ⟨k, rfl⟩ : ∃ m, k = m + 1 := ⟨k - 1, by simp at hk; omega⟩
    simp only [List.nil_append, ends]
    rw [if_neg, if_pos hx]
    · simp
    · rintro ⟨q1, q2 | q2⟩
      · omega
      · rw [hok (by simp; omega)] at q2; cases q2
  | cons a D ih =>
    intro i k x T hD hx hk hok
    obtain ⟨k, rfl⟩ : ∃ m, k = m + 1 := ⟨k - 1, by simp at hk; omega⟩
    simp only [List.cons_append, ends]
    have ha := hD a (by simp)
    rw [if_neg (by simp at hk; omega), if_neg (by omega), ih (i + 1) k x T (fun y hy => hD y (by simp [hy])) hx (by simpa using hk) (fun h => hok (by simpa using h))]
    simp
    omega

theorem ends_cut (ok : Int → Bool) (D : List Int) : ∀ (i k : Nat), (∀ y ∈ D, 128 ≤ y) → D.length < k → ends ok i k D = ((i : Int) + D.length, 1) := by
  induction D with
  | nil =>
    intro i k _ hk
    obtain ⟨k, rfl⟩ : ∃ m, k = m + 1 := ⟨k - 1, by simp at hk; omega⟩
    simp [ends]
  | cons a D ih =>
    intro i k hD hk
    obtain ⟨k, rfl⟩ : ∃ m, k = m + 1 := ⟨k - 1, by simp at hk; omega⟩
    simp only [ends]
    have ha := hD a (by simp)
    rw [if_neg (by simp at hk; omega), if_neg (by omega), ih (i + 1) k (fun y hy => hD y (by simp [hy])) (by simpa using hk)]
    simp
    omega

/-- digits by sevens: the last below 128, the others not -/
def Digits (L D : List Int) (x : Int) : Prop := L = D ++ [x] ∧ (∀ z ∈ D, 128 ≤ z ∧ z < 256) ∧ 0 ≤ x ∧ x < 128

theorem rU_digits (x m : Int) (h0 : 0 ≤ x) (hm : 0 ≤ m) : ∃ D y, Digits (rU x m) D y ∧ val (rU x m) = x ∧ (rU x m).length = (uL x).length + m.toNat := by
  by_cases h : x ≤ 127 ∧ m ≤ 0
  · rw [rU_small h, uL_small (by omega)]
    exact ⟨[], x % 256, ⟨rfl, by simp, by omega, by omega⟩, by simp [val]; omega, by simp; omega⟩
  · obtain ⟨D, y, ⟨e, q1, q2, q3⟩, q4, q5⟩ := rU_digits (x / 128) (if x ≤ 127 then m - 1 else m) (by omega) (by split <;> omega)
    refine ⟨(x % 128 + 128) :: D, y, ⟨by rw [rU_big h, e]; rfl, ?_, q2, q3⟩, ?_, ?_⟩
    · intro z hz
      rcases List.mem_cons.1 hz with rfl | hz
      · omega
      · exact q1 z hz
    · rw [rU_big h, val, q4]; omega
    · rw [rU_big h, List.length_cons, q5]
      by_cases hx : x ≤ 127
      · rw [uL_small (show x < 128 by omega), uL_small (show x / 128 < 128 by omega), if_pos hx]; simp; omega
      · rw [uL_big (show 128 ≤ x by omega), if_neg hx]; simp; omega
termination_by x.toNat + m.toNat
decreasing_by split <;> omega

theorem rS_digits (x m : Int) (hm : 0 ≤ m) : ∃ D y, Digits (rS x m) D y ∧ sv (rS x m) = x ∧ (rS x m).length = (sL x).length + m.toNat := by
  by_cases h : (-64 ≤ x ∧ x < 64) ∧ m ≤ 0
  · rw [rS_small h, sL_small h.1]
    exact ⟨[], x % 128, ⟨rfl, by simp, by omega, by omega⟩, by simp only [sv, sd]; split <;> omega, by simp; omega⟩
  · obtain ⟨D, y, ⟨e, q1, q2, q3⟩, q4, q5⟩ := rS_digits (x / 128) (if -64 ≤ x ∧ x < 64 then m - 1 else m) (by split <;> omega)
    refine ⟨(x % 128 + 128) :: D, y, ⟨by rw [rS_big h, e]; rfl, ?_, q2, q3⟩, ?_, ?_⟩
    · intro z hz
      rcases List.mem_cons.1 hz with rfl | hz
      · omega
      · exact q1 z hz
    · rw [rS_big h, sv_cons (by rw [e]; simp), q4]; omega
    · rw [rS_big h, List.length_cons, q5]
      by_cases hx : -64 ≤ x ∧ x < 64
      · rw [sL_small hx, sL_small (show -64 ≤ x / 128 ∧ x / 128 < 64 by omega), if_pos hx]; simp; omega
      · rw [sL_big hx, if_neg hx]; simp; omega
termination_by x.natAbs + m.toNat
decreasing_by split <;> omega

theorem rU_zero (x : Int) (h0 : 0 ≤ x) : rU x 0 = uL x := by
  by_cases h : x < 128
  · rw [rU_small (by omega), uL_small h]; congr 1; omega
  · rw [rU_big (by omega), uL_big (by omega), if_neg (by omega), rU_zero (x / 128) (by omega)]
termination_by x.toNat
decreasing_by omega
theorem rS_zero (x : Int) : rS x 0 = sL x := by
  by_cases h : -64 ≤ x ∧ x < 64
  · rw [rS_small ⟨h, by omega⟩, sL_small h]
  · rw [rS_big (fun q => h q.1), sL_big h, if_neg h, rS_zero (x / 128)]
termination_by x.natAbs
decreasing_by omega

/-- what is taken of the digits of a number of 64 bits -/
theorem take_U {L D : List Int} {x V : Int} (h : Digits L D x) (hv : val L = V) (h0 : 0 ≤ V) (h1 : V ≤ 18446744073709551615) (hl : L.length ≤ 10) (T : List Int) :
    endF 29 64 (L ++ T) = ((L.length : Int), 0) := by
  obtain ⟨rfl, q1, q2, q3⟩ := h
  unfold endF
  rw [List.append_assoc, List.singleton_append, ends_full _ D 0 _ x T (fun y hy => (q1 y hy).1) q3 (by simp at hl; simp [most]; omega)]
  · simp
  · intro hk
    have hd : D.length = 9 := by simp [most] at hk; omega
    rw [val_app, hd] at hv
    have := val_lt D
    rw [hd] at this
    have e : x / 2 = 0 := by omega
    simp [okF, most, e]
theorem take_S {L D : List Int} {x V : Int} (h : Digits L D x) (hv : sv L = V) (h0 : -9223372036854775808 ≤ V) (h1 : V ≤ 9223372036854775807) (hl : L.length ≤ 10) (T : List Int) :
    endF 32 64 (L ++ T) = ((L.length : Int), 0) ∧ (L.length = 10 → x = 0 ∨ x = 127) := by
  obtain ⟨rfl, q1, q2, q3⟩ := h
  have key : D.length = 9 → x = 0 ∨ x = 127 := by
    intro hd
    rw [sv_app, hd] at hv
    have := val_lt D
    rw [hd] at this
    unfold sd at hv
    split at hv <;> omega
  refine ⟨?_, fun h => key (by simp at h; omega)⟩
  unfold endF
  rw [List.append_assoc, List.singleton_append, ends_full _ D 0 _ x T (fun y hy => (q1 y hy).1) q3 (by simp at hl; simp [most]; omega)]
  · simp
  · intro hk
    have hd : D.length = 9 := by simp [most] at hk; omega
    rcases key hd with rfl | rfl <;> simp [okF, most]
/-- bytes lack where it is cut -/
theorem take_cut {f : Nat} {L D : List Int} {x : Int} (h : Digits L D x) (hl : L.length ≤ 10) {k : Nat} (hk : k < L.length) : endF f 64 (L.take k) = ((k : Int), 1) := by
  obtain ⟨rfl, q1, q2, q3⟩ := h
  simp at hk hl
  unfold endF
  rw [List.take_append_of_le_length (by omega), ends_cut _ (D.take k) 0 _ (fun y hy => (q1 y (List.mem_of_mem_take hy)).1) (by simp [most]; omega)]
  simp
  omega

theorem p7 (d : Nat) : (128 : Int) ^ d = 2 ^ (7 * d) := by rw [Int.pow_mul]; rfl
theorem two_pos (d : Nat) : (0 : Int) < 2 ^ d := Int.pow_pos (by decide)
theorem two_mono {a b : Nat} (h : a ≤ b) : (2 : Int) ^ a ≤ 2 ^ b := by
  have := Nat.pow_le_pow_right (n := 2) (by decide) h
  exact_mod_cast this

theorem ok29_bd (x c : Int) (h0 : 0 ≤ x) (h1 : x < 128) (hc0 : 1 ≤ c) (hc1 : c ≤ 7) (h : okF 29 x c = true) : x < 2 ^ c.toNat := by
  have h2 : x / 2 ^ c.toNat = 0 := by simpa [okF] using h
  have hp := two_pos c.toNat
  have h3 := Int.emod_add_mul_ediv x (2 ^ c.toNat)
  rw [h2] at h3
  have := Int.emod_lt_of_pos x hp
  omega
theorem ok29_up (x c d : Int) (h0 : 0 ≤ x) (h1 : x < 128) (hc0 : 1 ≤ c) (hcd : c ≤ d) (hd : d ≤ 7) (h : okF 29 x c = true) : okF 29 x d = true := by
  have h2 := ok29_bd x c h0 h1 hc0 (by omega) h
  have h3 := two_mono (show c.toNat ≤ d.toNat by omega)
  have h4 : x / 2 ^ d.toNat = 0 := Int.ediv_eq_zero_of_lt h0 (by omega)
  simp [okF, h4]
theorem ok32_key : ∀ (a : Fin 128) (b : Fin 7), okF 32 ((a.val : Nat) : Int) ((b.val : Nat) + 1) = true →
    -(2 ^ b.val) ≤ sd (a.val : Nat) ∧ sd (a.val : Nat) < 2 ^ b.val ∧ (∀ d : Fin 7, b.val ≤ d.val → okF 32 ((a.val : Nat) : Int) ((d.val : Nat) + 1) = true) := by decide +kernel
theorem ok32_bd (x c : Int) (h0 : 0 ≤ x) (h1 : x < 128) (hc0 : 1 ≤ c) (hc1 : c ≤ 7) (h : okF 32 x c = true) : -(2 ^ (c - 1).toNat) ≤ sd x ∧ sd x < 2 ^ (c - 1).toNat := by
  obtain ⟨n, rfl⟩ : ∃ n : Nat, x = n := ⟨x.toNat, by omega⟩
  obtain ⟨k, rfl⟩ : ∃ n : Nat, c = n + 1 := ⟨(c - 1).toNat, by omega⟩
  have e : ((k : Int) + 1 - 1).toNat = k := by omega
  rw [e]
  have := ok32_key ⟨n, by omega⟩ ⟨k, by omega⟩ h
  exact ⟨this.1, this.2.1⟩
theorem ok32_up (x c d : Int) (h0 : 0 ≤ x) (h1 : x < 128) (hc0 : 1 ≤ c) (hcd : c ≤ d) (hd : d ≤ 7) (h : okF 32 x c = true) : okF 32 x d = true := by
  obtain ⟨n, rfl⟩ : ∃ n : Nat, x = n := ⟨x.toNat, by omega⟩
  obtain ⟨k, rfl⟩ : ∃ n : Nat, c = n + 1 := ⟨(c - 1).toNat, by omega⟩
  obtain ⟨j, rfl⟩ : ∃ n : Nat, d = n + 1 := ⟨(d - 1).toNat, by omega⟩
  exact (ok32_key ⟨n, by omega⟩ ⟨k, by omega⟩ h).2.2 ⟨j, by omega⟩ (by simp; omega)

/-- a number of fewer bits is one of more -/
theorem small_up (f : Nat) (hf : f = 29 ∨ f = 32) (s g : Int) (l : List Int) (n : Int) (hs0 : 1 ≤ s) (hsg : s ≤ g) (hg : g ≤ 64) (hl : ∀ y ∈ l, 0 ≤ y ∧ y < 256) (h : endF f s l = (n, 0)) :
    endF f g l = (n, 0) ∧ ∃ D x T, l = D ++ x :: T ∧ 0 ≤ x ∧ x < 128 ∧ n = (D.length : Int) + 1 ∧ (D.length : Int) + 1 ≤ (s + 6) / 7 ∧ ((D.length : Int) + 1 = (s + 6) / 7 → okF f x (s - 7 * (D.length : Int)) = true) := by
  obtain ⟨m0, m1, m2⟩ := most_le hs0 (show s ≤ 64 by omega)
  obtain ⟨g0, g1, g2⟩ := most_le (show 1 ≤ g by omega) hg
  unfold endF at h
  obtain ⟨D, x, T, rfl, q1, q2, q3, q4, q5⟩ := ends_zero _ _ _ _ _ h
  have hx0 := (hl x (by simp)).1
  have hok : (D.length : Int) + 1 = (s + 6) / 7 → okF f x (s - 7 * (D.length : Int)) = true := by
    intro e
    have := q4 (by omega)
    rw [m0, ← e] at this
    have e2 : s - 7 * ((D.length : Int) + 1 - 1) = s - 7 * (D.length : Int) := by omega
    rw [e2] at this
    exact this
  refine ⟨?_, D, x, T, rfl, hx0, q2, by omega, by omega, hok⟩
  unfold endF
  rw [ends_full _ D 0 _ x T q1 q2 (by omega)]
  · rw [q5]
  · intro hk
    have e : (most g : Int) = D.length + 1 := by omega
    have h1 := hok (by omega)
    have e2 : g - 7 * ((most g : Int) - 1) = g - 7 * (D.length : Int) := by omega
    show okF f x (g - 7 * ((most g : Int) - 1)) = true
    rw [e2]
    rcases hf with rfl | rfl
    · exact ok29_up x _ _ hx0 q2 (by omega) (by omega) (by omega) h1
    · exact ok32_up x _ _ hx0 q2 (by omega) (by omega) (by omega) h1

theorem val_bits (D : List Int) (x s : Int) (h0 : 0 ≤ x) (h1 : x < 128) (hs0 : 1 ≤ s) (hs1 : s ≤ 64) (hd : (D.length : Int) + 1 ≤ (s + 6) / 7) (hok : (D.length : Int) + 1 = (s + 6) / 7 → okF 29 x (s - 7 * (D.length : Int)) = true) :
    0 ≤ val (D ++ [x]) ∧ val (D ++ [x]) < 2 ^ s.toNat := by
  have hv := val_lt D
  have hv2 := val_lt (D ++ [x])
  refine ⟨hv2.1, ?_⟩
  by_cases e : (D.length : Int) + 1 = (s + 6) / 7
  · have h2 := ok29_bd x _ h0 h1 (by omega) (by omega) (hok e)
    have e2 : s.toNat = 7 * D.length + (s - 7 * (D.length : Int)).toNat := by omega
    rw [val_app, e2, Int.pow_add, ← p7]
    generalize (2 : Int) ^ (s - 7 * (D.length : Int)).toNat = q at *
    have hm : (x + 1) * 128 ^ D.length ≤ q * 128 ^ D.length := Int.mul_le_mul_of_nonneg_right (by omega) (by omega)
    rw [Int.add_mul, Int.one_mul] at hm
    rw [Int.mul_comm _ q, Int.emod_eq_of_lt h0 h1]
    omega
  · have h2 := two_mono (show 7 * (D ++ [x]).length ≤ s.toNat by simp; omega)
    rw [p7] at hv2
    omega

theorem sv_bits (D : List Int) (x s : Int) (h0 : 0 ≤ x) (h1 : x < 128) (hs0 : 1 ≤ s) (hs1 : s ≤ 64) (hd : (D.length : Int) + 1 ≤ (s + 6) / 7) (hok : (D.length : Int) + 1 = (s + 6) / 7 → okF 32 x (s - 7 * (D.length : Int)) = true) :
    -(2 ^ (s - 1).toNat) ≤ sv (D ++ [x]) ∧ sv (D ++ [x]) < 2 ^ (s - 1).toNat := by
  have hv := val_lt D
  rw [sv_app]
  have key : ∀ q : Int, -q ≤ sd x → sd x < q → -(128 ^ D.length * q) ≤ val D + sd x * 128 ^ D.length ∧ val D + sd x * 128 ^ D.length < 128 ^ D.length * q := by
    intro q a b
    generalize (128 : Int) ^ D.length = p at *
    have hm : (sd x + 1) * p ≤ q * p := Int.mul_le_mul_of_nonneg_right (by omega) (by omega)
    have hn : (-q) * p ≤ sd x * p := Int.mul_le_mul_of_nonneg_right (by omega) (by omega)
    rw [Int.add_mul, Int.one_mul] at hm
    rw [Int.neg_mul] at hn
    rw [Int.mul_comm p q]
    omega
  by_cases e : (D.length : Int) + 1 = (s + 6) / 7
  · obtain ⟨a, b⟩ := ok32_bd x _ h0 h1 (by omega) (by omega) (hok e)
    have e2 : (s - 1).toNat = 7 * D.length + (s - 7 * (D.length : Int) - 1).toNat := by omega
    rw [e2, Int.pow_add, ← p7]
    exact key _ a b
  · have a : -64 ≤ sd x := by unfold sd; split <;> omega
    have b : sd x < 64 := by unfold sd; split <;> omega
    have h2 := key 64 a b
    have h3 := two_mono (show 7 * D.length + 6 ≤ (s - 1).toNat by omega)
    rw [Int.pow_add, ← p7] at h3
    have h4 : (2 : Int) ^ 6 = 64 := rfl
    rw [h4] at h3
    omega

end Go.Proofs.Ytlpocahflolmpaa
