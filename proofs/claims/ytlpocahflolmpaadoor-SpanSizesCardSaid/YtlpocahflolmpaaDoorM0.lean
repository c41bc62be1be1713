/- The plain law of Counts and Sizes: what is told is just what can be made. -/
import Derived.Test.YtlpocahflolmpaaDoorB4
namespace Go.Proofs.YtlpocahflolmpaaDoor
set_option linter.unusedVariables false
set_option linter.unusedSimpArgs false
open Go.RowKit

theorem le_div_iff {x a n : Int} (ha : 0 < a) : n * a ≤ x ↔ n ≤ x / a := (Int.le_ediv_iff_mul_le ha).symm
theorem up_div_iff {x b n : Int} (hb : 0 < b) : x ≤ n * b ↔ (x + b - 1) / b ≤ n := by
  have h1 := Int.ediv_mul_le (x + b - 1) (b := b) (by omega)
  have h2 := Int.lt_ediv_add_one_mul_self (x + b - 1) (b := b) hb
  constructor
  · intro h
    have : (x + b - 1) / b < n + 1 := by
      refine (Int.ediv_lt_iff_lt_mul hb).mpr ?_
      rw [Int.add_mul, Int.one_mul]; omega
    omega
  · intro h
    have h3 : (x + b - 1) / b * b ≤ n * b := Int.mul_le_mul_of_nonneg_right h (by omega)
    rw [Int.add_mul, Int.one_mul] at h2
    omega

theorem capM_small {n a : Int} (h : n * a ≤ 1099511627776) : capM n a = n * a := by unfold capM; rw [if_neg (by omega)]

theorem wi_iff {lo hi n : Int} (n0 : 0 ≤ n) (n1 : n ≤ 4294967295) : (wiL lo hi ≤ n ∧ n ≤ wiH lo hi) ↔ (lo ≤ n ∧ n ≤ hi) := by
  unfold wiL wiH
  by_cases h : min hi 4294967295 < lo ∨ hi < 0
  · rw [if_pos h, if_pos h]; omega
  · rw [if_neg h, if_neg h]; omega

theorem andMax_ub {x d : Int} (h : 1099511627776 ≤ x ∨ 1099511627776 ≤ d) : andMax x d = 1099511627776 := by unfold andMax; rw [if_pos (by omega)]
theorem andMax_b {x d : Int} (h : x < 1099511627776 ∧ d < 1099511627776 ∧ x + d ≤ 1099511627776) : andMax x d = x + d := by unfold andMax; rw [if_neg (by omega)]

theorem counts_law (a b c d r n : Int) (hi : itemB a b = true) (hr : rightB c d = true) (r0 : 0 ≤ r) (r1 : r ≤ 1099511627776) (n0 : 0 ≤ n) (n1 : n ≤ 4294967295) :
    makesB a b c d r n = decide (cnL a b c d r ≤ n ∧ n ≤ cnH a b c d r) := by
  simp only [itemB, rightB, Bool.and_eq_true, decide_eq_true_eq] at hi hr
  obtain ⟨⟨i1, i2, i3, i4⟩, i5, i6, i7⟩ := hi
  obtain ⟨c1, c2, c3, c4⟩ := hr
  have na0 : 0 ≤ n * a := Int.mul_nonneg n0 (by omega)
  have na1 : n * a ≤ 4294967295 * 31 := Int.mul_le_mul n1 i6 (by omega) (by omega)
  have f1 : n * a ≤ r - c ↔ n ≤ (r - c) / a := le_div_iff (by omega)
  have t1 : tmMin a n = n * a := by
    unfold tmMin; split
    · have : n = 0 := by omega
      subst this; simp
    · exact capM_small (by omega)
  have nb : b ≤ 31 → 0 ≤ n * b ∧ n * b ≤ 4294967295 * 31 ∧ tmMax b n = n * b ∧ (r - d ≤ n * b ↔ (r - d + b - 1) / b ≤ n) := by
    intro hb
    have nb0 : 0 ≤ n * b := Int.mul_nonneg n0 (by omega)
    have nb1 : n * b ≤ 4294967295 * 31 := Int.mul_le_mul n1 hb (by omega) (by omega)
    refine ⟨nb0, nb1, ?_, up_div_iff (by omega)⟩
    unfold tmMax; split
    · have : n = 0 := by omega
      subst this; simp
    · rw [if_neg (by omega)]; exact capM_small (by omega)
  have nu : 1099511627776 ≤ b → tmMax b n = if n ≤ 0 then 0 else 1099511627776 := by
    intro hb
    unfold tmMax; split
    · rfl
    · first | rfl | rw [if_pos hb]
  have hcn : cnL a b c d r = if cnNone b c d r then 1 else wiL (cnLow b c d r) (cnHigh a c r) := rfl
  have hch : cnH a b c d r = if cnNone b c d r then 0 else wiH (cnLow b c d r) (cnHigh a c r) := rfl
  rw [Bool.eq_iff_iff, decide_eq_true_eq]
  have hM : makesB a b c d r n = true ↔ n * a + c ≤ r ∧ (1099511627776 ≤ andMax (tmMax b n) d ∨ r ≤ andMax (tmMax b n) d) ∧ (r < 1099511627776 ∨ 1099511627776 ≤ andMax (tmMax b n) d) := by
    unfold makesB
    rw [t1]
    simp only [hasB, Bool.and_eq_true, Bool.or_eq_true, decide_eq_true_eq]
    constructor
    · rintro ⟨⟨h1, h2⟩, h3⟩; exact ⟨h1, h2, h3⟩
    · rintro ⟨h1, h2, h3⟩; exact ⟨⟨h1, h2⟩, h3⟩
  rw [hM]
  clear hM
  generalize n * a = na at *
  by_cases hN : cnNone b c d r
  · rw [hcn, hch, if_pos hN, if_pos hN]
    unfold cnNone at hN
    rcases hN with hN | ⟨hN1, hN2, hN3⟩
    · omega
    · obtain ⟨p1, p2, p3, p4⟩ := nb (by omega)
      rw [p3, andMax_b (by omega)]
      omega
  · rw [hcn, hch, if_neg hN, if_neg hN, wi_iff n0 n1]
    unfold cnNone at hN
    have hH : cnHigh a c r = (r - c) / a := rfl
    rw [hH]
    generalize (r - c) / a = q1 at *
    by_cases hd : 1099511627776 ≤ d
    · rw [andMax_ub (.inr hd)]
      have hl : cnLow b c d r = 0 := by
        unfold cnLow; rw [if_pos ⟨by simp only [hasB, decide_eq_true_eq]; omega, .inr hd⟩]
      rw [hl]
      omega
    · by_cases hb : 1099511627776 ≤ b
      · rw [nu hb]
        by_cases hn : n ≤ 0
        · rw [if_pos hn, andMax_b (by omega)]
          by_cases hr : r ≤ d
          · have hl : cnLow b c d r = 0 := by
              unfold cnLow; rw [if_pos ⟨by simp only [hasB, decide_eq_true_eq]; omega, by omega⟩]
            rw [hl]; omega
          · have hl : cnLow b c d r = 1 := by
              unfold cnLow; rw [if_neg (by simp only [hasB, decide_eq_true_eq]; omega), if_pos hb]
            rw [hl]; omega
        · rw [if_neg hn, andMax_ub (.inl (by omega))]
          by_cases hr : r ≤ d
          · have hl : cnLow b c d r = 0 := by
              unfold cnLow; rw [if_pos ⟨by simp only [hasB, decide_eq_true_eq]; omega, by omega⟩]
            rw [hl]; omega
          · have hl : cnLow b c d r = 1 := by
              unfold cnLow; rw [if_neg (by simp only [hasB, decide_eq_true_eq]; omega), if_pos hb]
            rw [hl]; omega
      · obtain ⟨p1, p2, p3, p4⟩ := nb (by omega)
        rw [p3, andMax_b (by omega)]
        by_cases hr : r ≤ d
        · have hl : cnLow b c d r = 0 := by
            unfold cnLow; rw [if_pos ⟨by simp only [hasB, decide_eq_true_eq]; omega, by omega⟩]
          rw [hl]; omega
        · have hl : cnLow b c d r = (r - d + b - 1) / b := by
            unfold cnLow; rw [if_neg (by simp only [hasB, decide_eq_true_eq]; omega), if_neg hb]
          rw [hl]; omega

/-- The bounds that the statement asks first. -/
theorem counts_bd (a b c d r : Int) (hi : itemB a b = true) (hr : rightB c d = true) (r0 : 0 ≤ r) (r1 : r ≤ 1099511627776) :
    0 ≤ cnL a b c d r ∧ cnL a b c d r ≤ 4294967295 ∧ 0 ≤ cnH a b c d r ∧ cnH a b c d r ≤ 4294967295 ∧ (cnH a b c d r < cnL a b c d r → cnL a b c d r = 1 ∧ cnH a b c d r = 0) := by
  have hcn : cnL a b c d r = if cnNone b c d r then 1 else wiL (cnLow b c d r) (cnHigh a c r) := rfl
  have hch : cnH a b c d r = if cnNone b c d r then 0 else wiH (cnLow b c d r) (cnHigh a c r) := rfl
  rw [hcn, hch]
  generalize cnLow b c d r = lo
  generalize cnHigh a c r = hi
  by_cases hN : cnNone b c d r
  · rw [if_pos hN, if_pos hN]; omega
  · rw [if_neg hN, if_neg hN]
    unfold wiL wiH
    by_cases h : min hi 4294967295 < lo ∨ hi < 0
    · rw [if_pos h, if_pos h]; omega
    · rw [if_neg h, if_neg h]; omega

end Go.Proofs.YtlpocahflolmpaaDoor
