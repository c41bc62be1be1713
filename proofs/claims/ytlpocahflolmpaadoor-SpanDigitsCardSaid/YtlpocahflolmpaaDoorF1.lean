/- Plain law: that a number fits is just that there is one, looked for one by one. -/
import Derived.Test.YtlpocahflolmpaaDoorF0
namespace Go.Proofs.YtlpocahflolmpaaDoor
set_option linter.unusedVariables false
set_option linter.unusedSimpArgs false
open Go.RowKit

/-- the least number from lo on with the digits that are known -/
theorem fitV_least {T low lo v : Int} (hT : 1 ≤ T) (h : lo ≤ v) (hm : v / T * T + low = v) (hl : 0 ≤ low) (hv : 0 ≤ v) : fitV T low lo ≤ v ∧ low ≤ v := by
  have hq : 0 ≤ v / T * T := Int.mul_nonneg (Int.ediv_nonneg hv (by omega)) (by omega)
  refine ⟨?_, by omega⟩
  unfold fitV
  split
  · rename_i hlo
    have h1 : lo - low + T - 1 ≤ v / T * T + (T - 1) := by omega
    have h2 : (lo - low + T - 1) / T ≤ v / T := by
      have h3 : (lo - low + T - 1) / T ≤ (v / T * T + (T - 1)) / T := Int.ediv_le_ediv (by omega) h1
      have h4 : (v / T * T + (T - 1)) / T = v / T := by
        rw [Int.add_comm, Int.add_mul_ediv_right _ _ (by omega), Int.ediv_eq_zero_of_lt (by omega) (by omega)]
        omega
      omega
    have h5 : (lo - low + T - 1) / T * T ≤ v / T * T := Int.mul_le_mul_of_nonneg_right h2 (by omega)
    omega
  · omega
theorem fitV_is {T low lo : Int} (hT : 1 ≤ T) (hl : 0 ≤ low) (hlT : low < T) : lo ≤ fitV T low lo ∧ fitV T low lo / T * T + low = fitV T low lo ∧ low ≤ fitV T low lo ∨ False := by
  left
  by_cases hlo : low < lo
  · have hg := fitV_ge hT hlo
    unfold fitV at hg ⊢
    rw [if_pos hlo] at hg ⊢
    have hdiv : (low + (lo - low + T - 1) / T * T) / T = (lo - low + T - 1) / T := by
      rw [Int.add_mul_ediv_right _ _ (by omega), Int.ediv_eq_zero_of_lt hl hlT]
      omega
    refine ⟨hg.1, by rw [hdiv]; omega, by omega⟩
  · unfold fitV
    rw [if_neg hlo]
    refine ⟨by omega, by rw [Int.ediv_eq_zero_of_lt hl hlT]; omega, by omega⟩

theorem div_R {q R : Int} (hq : 0 ≤ q) (hR : 1 ≤ R) : q / R = 0 ↔ q < R := by
  constructor
  · intro h
    have := Int.lt_ediv_add_one_mul_self q (b := R) (by omega)
    rw [h] at this
    omega
  · intro h; exact Int.ediv_eq_zero_of_lt hq h

theorem fits_law (low shift left bits : Int) (l : List (Int × Int)) (hlo : 0 ≤ low) (hlo2 : low < 2 ^ shift.toNat) (hs : 0 ≤ shift) (hs2 : shift ≤ 63) (hf : 0 ≤ left) (hf2 : left ≤ 9) (hb : 0 ≤ bits) (hb2 : bits ≤ 63)
    (hl : ∀ x ∈ l, 0 ≤ x.1) :
    fitsI low shift left bits l = true ↔ ∃ x ∈ l, ∃ v, x.1 ≤ v ∧ v ≤ x.2 ∧ Hit (2 ^ shift.toNat) (2 ^ bits.toNat) (128 ^ left.toNat) low v := by
  obtain ⟨t1, t2⟩ := pow_bd hs hs2
  obtain ⟨b1, b2⟩ := pow_bd hb hb2
  have hR : (128 : Int) ^ left.toNat = 2 ^ (7 * left).toNat := by rw [p128]; congr 1; omega
  obtain ⟨r1, r2⟩ := pow_bd (n := 7 * left) (by omega) (by omega)
  rw [hR]
  have hbig : ¬ (7 * left + shift < bits) → (2 : Int) ^ bits.toNat ≤ 2 ^ (7 * left).toNat * 2 ^ shift.toNat := by
    intro h
    rw [← Int.pow_add]
    have h1 := Nat.pow_le_pow_right (n := 2) (by decide) (show bits.toNat ≤ (7 * left).toNat + shift.toNat by omega)
    exact_mod_cast h1
  have hsm : 7 * left + shift < bits → (2 : Int) ^ (7 * left).toNat * 2 ^ shift.toNat ≤ 2 ^ bits.toNat := by
    intro h
    rw [← Int.pow_add]
    have h1 := Nat.pow_le_pow_right (n := 2) (by decide) (show (7 * left).toNat + shift.toNat ≤ bits.toNat by omega)
    exact_mod_cast h1
  unfold fitsI fitsB
  rw [List.any_eq_true]
  generalize (2 : Int) ^ shift.toNat = T at *
  generalize (2 : Int) ^ bits.toNat = B at *
  generalize (2 : Int) ^ (7 * left).toNat = R at *
  -- of one number that has the digits: it is no more than the most just if it is below the bound and its rest is none
  have key : ∀ v, 0 ≤ v → v / T * T + low = v → (v ≤ mostS T B R low shift left bits ↔ v < B ∧ v / T / R = 0) := by
    intro v hv hm
    have hq : 0 ≤ v / T := Int.ediv_nonneg hv (by omega)
    rw [div_R hq r1]
    unfold mostS
    split
    · rename_i h
      have h2 := hsm h
      constructor
      · intro h3
        have h4 : v / T * T ≤ (R - 1) * T := by omega
        have h5 : v / T ≤ R - 1 := Int.le_of_mul_le_mul_right h4 (by omega)
        rw [Int.sub_mul, Int.one_mul] at h3
        omega
      · intro h3
        have h5 : v / T * T ≤ (R - 1) * T := Int.mul_le_mul_of_nonneg_right (by omega) (by omega)
        omega
    · rename_i h
      have h2 := hbig h
      constructor
      · intro h3
        refine ⟨by omega, ?_⟩
        exact Int.lt_of_mul_lt_mul_right (a := T) (by omega) (by omega)
      · intro h3; omega
  constructor
  · rintro ⟨x, hx, h⟩
    have hx0 := hl x hx
    simp only [fitOne, decide_eq_true_eq] at h
    obtain ⟨h1, h2, h3, h4⟩ := h
    rcases fitV_is (lo := x.1) t1 hlo hlo2 with ⟨g1, g2, g3⟩ | g
    · have := (key _ (by omega) g2).1 h4
      exact ⟨x, hx, _, g1, h3, this.1, g2, this.2⟩
    · exact g.elim
  · rintro ⟨x, hx, v, h1, h2, h3, h4, h5⟩
    have hx0 := hl x hx
    refine ⟨x, hx, ?_⟩
    simp only [fitOne, decide_eq_true_eq]
    obtain ⟨k1, k2⟩ := fitV_least (lo := x.1) t1 h1 h4 hlo (by omega)
    have hM := (key v (by omega) h4).2 ⟨h3, h5⟩
    exact ⟨by omega, by omega, by omega, by omega⟩

end Go.Proofs.YtlpocahflolmpaaDoor
