/- The reference's Fits: looked for one by one. -/
import Derived.Test.YtlpocahflolmpaaDoorB5
import Derived.WalkKit
import Derived.WalkSpells
import Derived.WalkLawsBesides
namespace Go.Proofs.YtlpocahflolmpaaDoor
set_option linter.unusedVariables false
set_option linter.unusedSimpArgs false
open Go.RowKit

/-- ranges that came in -/
def Came (w : World) (A : Option Addr) (l : List (Int × Int)) : Prop :=
  (∀ i (h : i < l.length), 0 ≤ l[i].1 ∧ l[i].1 ≤ 18446744073709551615 ∧ 0 ≤ l[i].2 ∧ l[i].2 ≤ 18446744073709551615) ∧
  (l ≠ [] → ∃ g o, A = some ⟨g, o, none⟩ ∧ g < w.heap.size ∧ ∀ i (h : i < l.length), w.cell? ⟨g, o + i * 2, none⟩ = some (.int .u64 l[i].1) ∧ w.cell? ⟨g, o + i * 2 + 1, none⟩ = some (.int .u64 l[i].2))
def Hit (T B R low v : Int) : Prop := v < B ∧ v / T * T + low = v ∧ v / T / R = 0

def FitsPost (w : World) (T B R low : Int) (l : List (Int × Int)) (e : Ending) (w' : World) : Prop :=
  ∃ b, e = .returned (.bool b) ∧ (b = true ↔ ∃ x ∈ l, ∃ v, x.1 ≤ v ∧ v ≤ x.2 ∧ Hit T B R low v) ∧ Below w.heap.size w w'
theorem p128 (k : Nat) : (128 : Int) ^ k = 2 ^ (7 * k) := by rw [Int.pow_mul]; rfl

set_option maxHeartbeats 4000000 in
theorem refFits_any (A : Option Addr) (c : Nat) (l : List (Int × Int)) (low shift left bits T B R : Int) (w : World) (hl : l.length ≤ 1000000) (hC : Hid (Came w A l)) (hov : Hid (∀ x ∈ l, x.1 ≤ x.2 → x.2 < 18446744073709551615))
    (hlo : 0 ≤ low) (hlo2 : low < T) (hs : 0 ≤ shift) (hs2 : shift ≤ 63) (hf : 0 ≤ left) (hf2 : left ≤ 9) (hb : 0 ≤ bits) (hb2 : bits ≤ 63)
    (hT : (2 : Int) ^ shift.toNat = T) (hT1 : 1 ≤ T) (hT2 : T ≤ 9223372036854775808) (hB : (2 : Int) ^ bits.toNat = B) (hB1 : 1 ≤ B) (hB2 : B ≤ 9223372036854775808) (hRR : Hid ((128 : Int) ^ left.toNat = R)) :
    Calls Tryd.prog 16 #[.slice A l.length c, .int .u64 low, .int .i64 shift, .int .i64 left, .int .i64 bits] w (FitsPost w T B R low l) := by
  go_enter Tryd.func16, Tryd.ntmps16
  go_wp2
  go_loopw [11] (fun v11 wr => ∃ i : Nat, v11 = .int .i64 i ∧ i ≤ l.length ∧ Hid (∀ j (h : j < l.length), j < i → ∀ v, l[j].1 ≤ v → v ≤ l[j].2 → ¬ Hit T B R low v) ∧ wr = w) (fun v11 _ => l.length - (intOf v11).toNat)
  case atStart => exact ⟨0, by go_num, by omega, hid (fun j h h2 => by omega), rfl⟩
  case round =>
    obtain ⟨i, rfl, hi, HI, rfl⟩ := hrel
    by_cases hlt : i < l.length
    · obtain ⟨hbnd, hcel⟩ := hC.out
      obtain ⟨b1, b2, b3, b4⟩ := hbnd i hlt
      obtain ⟨g, o, rfl, hbl, hcl⟩ := hcel (by intro e; rw [e] at hlt; simp at hlt)
      obtain ⟨c1, c2⟩ := hcl i hlt
      have ho := hov.out l[i] (List.getElem_mem hlt)
      obtain ⟨lo, hlo'⟩ : ∃ lo, l[i].1 = lo := ⟨_, rfl⟩
      obtain ⟨hi', hhi'⟩ : ∃ hi', l[i].2 = hi' := ⟨_, rfl⟩
      rw [hlo'] at b1 b2 c1 ho
      rw [hhi'] at b3 b4 c2 ho
      have HLO := hid hlo'
      have HHI := hid hhi'
      clear hbnd hcel hcl hlo' hhi'
      go_wp2
      go_loopw [12] (fun v12 wq => ∃ v : Int, v12 = .int .u64 v ∧ lo ≤ v ∧ (lo ≤ hi' → v ≤ hi' + 1) ∧ 0 ≤ v ∧ v ≤ 18446744073709551615 ∧ Hid (∀ u, lo ≤ u → u < v → ¬ Hit T B R low u) ∧ wq = wr) (fun v12 _ => (hi' + 1 - intOf v12).toNat)
      case atStart => exact ⟨lo, rfl, by omega, by omega, b1, b2, hid (fun u h1 h2 => by omega), rfl⟩
      case round =>
        obtain ⟨v, rfl, v0, v1, v2, v3, HV, rfl⟩ := hrel
        by_cases hvh : v ≤ hi'
        · have ho2 := ho (by omega)
          clear v1
          by_cases hvB : v < B
          · have hd0 : v / B = 0 := Int.ediv_eq_zero_of_lt v2 hvB
            have q2 : (v / 9223372036854775808 != 0) = false := by rw [Int.ediv_eq_zero_of_lt v2 (by omega)]; rfl
            have m0 : v / T * T ≤ v := Int.ediv_mul_le v (by omega)
            have m1 : 0 ≤ v / T * T := Int.mul_nonneg (Int.ediv_nonneg v2 (by omega)) (by omega)
            have w1 : IntKind.u64.wrap (v / T * T) = v / T * T := by rw [wu]; omega
            have w2 : IntKind.u64.wrap (v / T * T + low) = v / T * T + low := by rw [wu]; omega
            have d0 : 0 ≤ v / T := Int.ediv_nonneg v2 (by omega)
            by_cases hcg : v / T * T + low = v
            · have q3 : (v / T * T + low != v) = false := by simpa using hcg
              have HCG := hid hcg
              clear hcg
              obtain ⟨wq, rfl⟩ : ∃ wq : World, wq = wr := ⟨_, rfl⟩
              go_wp2
              all_goals
                go_loopw [13, 14] (fun v13 v14 wz => ∃ k : Nat, v14 = .int .i64 k ∧ (k : Int) ≤ left ∧ v13 = .int .u64 (v / T / 128 ^ k) ∧ wz = wq) (fun _ v14 _ => (left - intOf v14).toNat)
                case atStart => exact ⟨0, by go_num, by omega, by simp, rfl⟩
                case round =>
                  obtain ⟨k, rfl, hk, rfl, rfl⟩ := hrel
                  have r0 : 0 ≤ v / T / 128 ^ k := Int.ediv_nonneg d0 (Int.le_of_lt (Int.pow_pos (by decide)))
                  have r1 : v / T / 128 ^ k ≤ 18446744073709551615 := by
                    have e1 : v / T ≤ v := Int.ediv_le_self _ v2
                    have e2 : v / T / 128 ^ k ≤ v / T := Int.ediv_le_self _ d0
                    omega
                  by_cases hkl : (k : Int) < left
                  · have HR2 := hid (show v / T / 128 ^ k / 128 = v / T / 128 ^ (k + 1) by rw [Int.ediv_ediv_of_nonneg (Int.le_of_lt (Int.pow_pos (by decide))), Int.pow_succ])
                    go_wp2
                    refine ⟨⟨k + 1, by go_num, by omega, by rw [HR2.out], trivial⟩, by simp [intOf]; omega⟩
                  · have HR3 := hid (show v / T / 128 ^ k = v / T / R by rw [← hRR.out, show left.toNat = k by omega])
                    by_cases hz : v / T / 128 ^ k = 0
                    · have HH := hid (show Hit T B R low v from ⟨hvB, HCG.out, by rw [← HR3.out]; exact hz⟩)
                      have q5 : (v / T / 128 ^ k == 0) = true := by simpa using hz
                      clear hz
                      go_wp2
                      go_ret
                      exact ⟨true, rfl, by simp only [true_iff]; exact ⟨_, List.getElem_mem hlt, v, by rw [HLO.out]; exact v0, by rw [HHI.out]; exact hvh, HH.out⟩, Below.refl _ _⟩
                    · have HNH := hid (show ¬ Hit T B R low v from fun h => hz (HR3.out.trans h.2.2))
                      have q5 : (v / T / 128 ^ k == 0) = false := by simpa using hz
                      clear hz
                      go_wp2
                      refine ⟨⟨v + 1, rfl, by omega, fun _ => by omega, by omega, by omega, hid (fun u h1 h2 => ?_), trivial⟩, by simp [intOf]; omega⟩
                      by_cases hu : u = v
                      · rw [hu]; exact HNH.out
                      · exact HV.out u h1 (by omega)
            · have q3 : (v / T * T + low != v) = true := by simpa using hcg
              have HNH := hid (show ¬ Hit T B R low v from fun h => hcg h.2.1)
              clear hcg
              go_wp2
              all_goals
                refine ⟨⟨v + 1, rfl, by omega, fun _ => by omega, by omega, by omega, hid (fun u h1 h2 => ?_), trivial⟩, by simp [intOf]; omega⟩
                by_cases hu : u = v
                · rw [hu]; exact HNH.out
                · exact HV.out u h1 (by omega)
          · have HNH := hid (show ∀ u, lo ≤ u → ¬ Hit T B R low u from fun u h1 h => by
              by_cases hu : u < v
              · exact HV.out u h1 hu h
              · have := h.1; omega)
            by_cases hb63 : bits < 63
            · have q1 : ¬ v / B = 0 := by
                have : 1 ≤ v / B := (Int.le_ediv_iff_mul_le (by omega)).2 (by omega)
                omega
              go_wp2
              refine ⟨⟨i + 1, by go_num, by omega, hid (fun j h h2 u h3 h4 => ?_), trivial⟩, by simp [intOf]; omega⟩
              by_cases hj : j = i
              · subst hj
                rw [HLO.out] at h3
                exact HNH.out u h3
              · exact HI.out j h (by omega) u h3 h4
            · have hB63 : B = 9223372036854775808 := by rw [← hB, show bits.toNat = 63 by omega]; rfl
              have q2 : (v / 9223372036854775808 != 0) = true := by simp; omega
              clear hB63
              go_wp2
              refine ⟨⟨i + 1, by go_num, by omega, hid (fun j h h2 u h3 h4 => ?_), trivial⟩, by simp [intOf]; omega⟩
              by_cases hj : j = i
              · subst hj
                rw [HLO.out] at h3
                exact HNH.out u h3
              · exact HI.out j h (by omega) u h3 h4
        · have HNH := hid (show ∀ u, lo ≤ u → u ≤ hi' → ¬ Hit T B R low u from fun u h1 h2 => HV.out u h1 (by omega))
          go_wp2
          refine ⟨⟨i + 1, by go_num, by omega, hid (fun j h h2 u h3 h4 => ?_), trivial⟩, by simp [intOf]; omega⟩
          by_cases hj : j = i
          · subst hj
            rw [HLO.out] at h3
            rw [HHI.out] at h4
            exact HNH.out u h3 h4
          · exact HI.out j h (by omega) u h3 h4
    · have HF := hid (show ¬ ∃ x ∈ l, ∃ v, x.1 ≤ v ∧ v ≤ x.2 ∧ Hit T B R low v from fun ⟨x, hx, v, h1, h2, h3⟩ => by
        obtain ⟨j, hj, rfl⟩ := List.mem_iff_getElem.1 hx
        exact HI.out j hj (by omega) v h1 h2 h3)
      go_wp2
      go_ret
      exact ⟨false, rfl, by simp only [Bool.false_eq_true, false_iff]; exact HF.out, Below.refl _ _⟩

end Go.Proofs.YtlpocahflolmpaaDoor
