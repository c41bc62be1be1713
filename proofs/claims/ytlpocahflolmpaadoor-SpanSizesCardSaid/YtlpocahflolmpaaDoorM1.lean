/- The plain law of Sizes. -/
import Derived.Test.YtlpocahflolmpaaDoorS0
import Derived.Test.YtlpocahflolmpaaDoorM0
namespace Go.Proofs.YtlpocahflolmpaaDoor
set_option linter.unusedVariables false
set_option linter.unusedSimpArgs false
open Go.RowKit

theorem sizes_law (a b c d r v : Int) (hi : rightB a b = true) (hr : rightB c d = true) (r0 : 0 ≤ r) (r1 : r ≤ 1099511627776) (n0 : 0 ≤ v) (n1 : v ≤ 4294967295) :
    partsB a b c d r v = decide (szL a b c d r ≤ v ∧ v ≤ szH a b c d r) := by
  simp only [rightB, decide_eq_true_eq] at hi hr
  obtain ⟨i1, i2, i3, i4⟩ := hi
  obtain ⟨c1, c2, c3, c4⟩ := hr
  have hcn : szL a b c d r = if szNone d r then 1 else wiL (szLow a d r) (szHigh b c r) := rfl
  have hch : szH a b c d r = if szNone d r then 0 else wiH (szLow a d r) (szHigh b c r) := rfl
  rw [Bool.eq_iff_iff, decide_eq_true_eq]
  have hM : partsB a b c d r v = true ↔ (a ≤ v ∧ (1099511627776 ≤ b ∨ v ≤ b)) ∧ (1099511627776 ≤ r ∨ v ≤ r) ∧ (if 1099511627776 ≤ r then 1099511627776 ≤ d else c ≤ r - v ∧ (1099511627776 ≤ d ∨ r - v ≤ d)) := by
    unfold partsB
    by_cases h : 1099511627776 ≤ r
    · rw [if_pos h, if_pos h]
      simp only [hasB, Bool.and_eq_true, Bool.or_eq_true, decide_eq_true_eq]
      constructor
      · rintro ⟨⟨h1, h2⟩, h3⟩; exact ⟨h1, h2, h3⟩
      · rintro ⟨h1, h2, h3⟩; exact ⟨⟨h1, h2⟩, h3⟩
    · rw [if_neg h, if_neg h]
      simp only [hasB, Bool.and_eq_true, Bool.or_eq_true, decide_eq_true_eq]
      constructor
      · rintro ⟨⟨h1, h2⟩, h3⟩; exact ⟨h1, h2, h3⟩
      · rintro ⟨h1, h2, h3⟩; exact ⟨⟨h1, h2⟩, h3⟩
  rw [hM]
  by_cases hN : szNone d r
  · rw [hcn, hch, if_pos hN, if_pos hN]
    unfold szNone at hN
    rw [if_pos hN.1]
    omega
  · rw [hcn, hch, if_neg hN, if_neg hN, wi_iff n0 n1]
    unfold szNone at hN
    by_cases h : 1099511627776 ≤ r
    · rw [if_pos h, show szLow a d r = a by unfold szLow; rw [if_pos (.inl h)], show szHigh b c r = b by unfold szHigh; rw [if_pos h]]
      omega
    · rw [if_neg h, show szHigh b c r = min b (r - c) by unfold szHigh; rw [if_neg h]]
      by_cases h2 : 1099511627776 ≤ d
      · rw [show szLow a d r = a by unfold szLow; rw [if_pos (.inr h2)]]
        omega
      · rw [show szLow a d r = max a (r - d) by unfold szLow; rw [if_neg (by omega)]]
        omega

theorem sizes_bd (a b c d r : Int) (hi : rightB a b = true) (hr : rightB c d = true) (r0 : 0 ≤ r) (r1 : r ≤ 1099511627776) :
    0 ≤ szL a b c d r ∧ szL a b c d r ≤ 4294967295 ∧ 0 ≤ szH a b c d r ∧ szH a b c d r ≤ 4294967295 ∧ (szH a b c d r < szL a b c d r → szL a b c d r = 1 ∧ szH a b c d r = 0) := by
  have hcn : szL a b c d r = if szNone d r then 1 else wiL (szLow a d r) (szHigh b c r) := rfl
  have hch : szH a b c d r = if szNone d r then 0 else wiH (szLow a d r) (szHigh b c r) := rfl
  rw [hcn, hch]
  generalize szLow a d r = lo
  generalize szHigh b c r = hi
  by_cases hN : szNone d r
  · rw [if_pos hN, if_pos hN]; omega
  · rw [if_neg hN, if_neg hN]
    unfold wiL wiH
    by_cases h : min hi 4294967295 < lo ∨ hi < 0
    · rw [if_pos h, if_pos h]; omega
    · rw [if_neg h, if_neg h]; omega

end Go.Proofs.YtlpocahflolmpaaDoor
