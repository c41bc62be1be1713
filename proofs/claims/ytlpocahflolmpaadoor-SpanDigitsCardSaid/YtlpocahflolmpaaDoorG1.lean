/- Plain law of SpanDigits: a number by sevens, taken byte by byte, fits a range that has it; where it does not fit none begins so. -/
import Derived.Test.YtlpocahflolmpaaDoorG0
namespace Go.Proofs.YtlpocahflolmpaaDoor.Lb
set_option linter.unusedVariables false
set_option linter.unusedSimpArgs false
open Go.RowKit

/-- a number's digits so far, and its rest -/
theorem val_split (L : List Int) : ∀ k : Nat, val L = val (L.take k) + 128 ^ (min k L.length) * val (L.drop k) := by
  induction L with
  | nil => intro k; simp [val]
  | cons a L ih =>
    intro k
    cases k with
    | zero => simp [val]
    | succ k =>
      have := ih k
      simp only [List.take_succ_cons, List.drop_succ_cons, val, List.length_cons]
      rw [this, show min (k + 1) (L.length + 1) = min k L.length + 1 by omega, Int.pow_succ, Int.mul_add]
      rw [Int.mul_comm (128 ^ _) 128, Int.mul_assoc, Int.add_assoc]
theorem val_nonneg (L : List Int) : 0 ≤ val L := (val_lt L).1

/-- does a range fit digits so far? -/
def fitD (s shift left lo hi : Int) : Bool := fitsI s shift left 32 [(lo, hi)]
theorem fitD_iff (s shift left lo hi : Int) (h0 : 0 ≤ s) (h1 : s < 2 ^ shift.toNat) (hs : 0 ≤ shift) (hs2 : shift ≤ 63) (hf : 0 ≤ left) (hf2 : left ≤ 9) (hl : 0 ≤ lo) :
    fitD s shift left lo hi = true ↔ ∃ w, lo ≤ w ∧ w ≤ hi ∧ Hit (2 ^ shift.toNat) 4294967296 (128 ^ left.toNat) s w := by
  unfold fitD
  rw [fits_law s shift left 32 [(lo, hi)] h0 h1 hs hs2 hf hf2 (by decide) (by decide) (by simpa using hl)]
  have e : (2 : Int) ^ (32 : Int).toNat = 4294967296 := by decide
  rw [e]
  simp
theorem fit_in {s shift left lo hi v : Int} (h0 : 0 ≤ s) (h1 : s < 2 ^ shift.toNat) (hs : 0 ≤ shift) (hs2 : shift ≤ 63) (hf : 0 ≤ left) (hf2 : left ≤ 9) (hl : 0 ≤ lo)
    (hv : v / 2 ^ shift.toNat * 2 ^ shift.toNat + s = v) (hv2 : v < 4294967296) (hr : v / 2 ^ shift.toNat / 128 ^ left.toNat = 0) (hin : lo ≤ v ∧ v ≤ hi) : fitD s shift left lo hi = true :=
  (fitD_iff s shift left lo hi h0 h1 hs hs2 hf hf2 hl).2 ⟨v, hin.1, hin.2, hv2, hv, hr⟩
theorem fit_not {s shift left lo hi w : Int} (h0 : 0 ≤ s) (h1 : s < 2 ^ shift.toNat) (hs : 0 ≤ shift) (hs2 : shift ≤ 63) (hf : 0 ≤ left) (hf2 : left ≤ 9) (hl : 0 ≤ lo) (hh : hi ≤ 4294967295)
    (hno : fitD s shift left lo hi = false) (hw : lo ≤ w) (hw2 : w ≤ hi) : w ≠ s ∧ (w / 2 ^ shift.toNat / 128 ^ left.toNat = 0 → w % 2 ^ shift.toNat ≠ s) := by
  have hn : ¬ ∃ w, lo ≤ w ∧ w ≤ hi ∧ Hit (2 ^ shift.toNat) 4294967296 (128 ^ left.toNat) s w := by
    rw [← fitD_iff s shift left lo hi h0 h1 hs hs2 hf hf2 hl, hno]; decide
  constructor
  · intro e
    subst e
    refine hn ⟨w, hw, hw2, by omega, ?_, ?_⟩
    · rw [Int.ediv_eq_zero_of_lt h0 h1]; omega
    · rw [Int.ediv_eq_zero_of_lt h0 h1]; simp
  · intro hr e
    refine hn ⟨w, hw, hw2, by omega, ?_, hr⟩
    have := Int.mul_ediv_add_emod w (2 ^ shift.toNat)
    rw [Int.mul_comm] at this
    omega
theorem fit_last {s shift lo hi : Int} (h0 : 0 ≤ s) (h1 : s < 2 ^ shift.toNat) (hs : 0 ≤ shift) (hs2 : shift ≤ 63) (hl : 0 ≤ lo) (h : fitD s shift 0 lo hi = true) : lo ≤ s ∧ s ≤ hi := by
  obtain ⟨w, a, b, _, c, d⟩ := (fitD_iff s shift 0 lo hi h0 h1 hs hs2 (by decide) (by decide) hl).1 h
  have e : (128 : Int) ^ (0 : Int).toNat = 1 := by decide
  rw [e, Int.ediv_one] at d
  rw [d] at c
  omega

/-- the digits of a number of 32 bits that are put -/
structure Dg (v : Int) (L : List Int) : Prop where
  dig : ∃ D x, Digits L D x
  is : val L = v
  least : (uL v).length ≤ L.length
theorem Dg.of {v m : Int} (h0 : 0 ≤ v) (hm : 0 ≤ m) : Dg v (rU v m) := by
  obtain ⟨D, y, h1, h2, h3⟩ := rU_digits v m h0 hm
  exact ⟨⟨D, y, h1⟩, h2, by omega⟩
theorem Dg.bytes {v : Int} {U : List Int} (h : Dg v U) : ∀ z ∈ U, 0 ≤ z ∧ z < 256 := by obtain ⟨D, x, hd⟩ := h.dig; exact dig_bytes hd
theorem Dg.pos {v : Int} {U : List Int} (h : Dg v U) : 1 ≤ U.length := by obtain ⟨D, x, hd⟩ := h.dig; exact dig_pos hd
/-- a byte below 128 is just the last -/
theorem Dg.last {v : Int} {U : List Int} (h : Dg v U) {i : Nat} {b : Int} (hb : U[i]? = some b) : b < 128 ↔ i + 1 = U.length := by
  obtain ⟨D, x, rfl, q1, q2, q3⟩ := h.dig
  simp only [List.length_append, List.length_singleton]
  by_cases hi : i < D.length
  · rw [List.getElem?_append_left hi] at hb
    have := q1 b (List.mem_of_getElem? hb)
    omega
  · rw [List.getElem?_append_right (by omega)] at hb
    have : i - D.length = 0 := by
      rcases Nat.eq_zero_or_pos (i - D.length) with h0 | h0
      · exact h0
      · rw [List.getElem?_eq_none (by simp; omega)] at hb; cases hb
    rw [this] at hb
    simp at hb
    subst hb
    omega
/-- the digits so far -/
theorem Dg.sofar {v : Int} {U : List Int} (h : Dg v U) {i : Nat} (hi : i < U.length) : ∃ r, 0 ≤ r ∧ v = val (U.take (i + 1)) + 128 ^ (i + 1) * r ∧ 0 ≤ val (U.take (i + 1)) ∧ val (U.take (i + 1)) < 128 ^ (i + 1) ∧ (i + 1 = U.length → r = 0) := by
  refine ⟨val (U.drop (i + 1)), val_nonneg _, ?_, val_nonneg _, ?_, fun e => ?_⟩
  · have := val_split U (i + 1)
    rw [h.is, Nat.min_eq_left (by omega)] at this
    exact this
  · have := (val_lt (U.take (i + 1))).2
    rwa [List.length_take, Nat.min_eq_left (by omega)] at this
  · rw [List.drop_eq_nil_of_le (by omega)]; rfl
theorem val_step {U : List Int} {i : Nat} {b : Int} (hb : U[i]? = some b) : val (U.take (i + 1)) = val (U.take i) + b % 128 * 128 ^ i := by
  have hl : i < U.length := (List.getElem?_eq_some_iff.1 hb).1
  rw [List.take_add_one, hb]
  simp only [Option.toList_some]
  rw [val_app, List.length_take, Nat.min_eq_left (by omega)]

end Go.Proofs.YtlpocahflolmpaaDoor.Lb
