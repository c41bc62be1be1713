/- Numbers with a sign as bytes: leb.PutS; the reference's PutU. -/
import Derived.Test.YtlpocahflolmpaaB1
namespace Go.Proofs.Ytlpocahflolmpaa
set_option linter.unusedVariables false
set_option linter.unusedSimpArgs false
open Go.RowKit

/-- the bytes of a number with a sign -/
def sL (x : Int) : List Int := if h : -64 ≤ x ∧ x < 64 then [x % 128] else (x % 128 + 128) :: sL (x / 128)
termination_by x.natAbs
decreasing_by omega
theorem sL_small {x : Int} (h : -64 ≤ x ∧ x < 64) : sL x = [x % 128] := by rw [sL, dif_pos h]
theorem sL_big {x : Int} (h : ¬ (-64 ≤ x ∧ x < 64)) : sL x = (x % 128 + 128) :: sL (x / 128) := by rw [sL, dif_neg h]
theorem sL_pos (x : Int) : 1 ≤ (sL x).length := by
  by_cases h : -64 ≤ x ∧ x < 64
  · rw [sL_small h]; simp
  · rw [sL_big h]; simp
theorem and127 (x : Int) (h0 : 0 ≤ x) (h : x < 256) : bits .and .u8 x 127 = x % 128 := by
  obtain ⟨n, rfl⟩ : ∃ n : Nat, x = n := ⟨x.toNat, by omega⟩
  have hn : n < 256 := by omega
  have key : ∀ m : Fin 256, bits .and .u8 ((m.val : Nat) : Int) 127 = ((m.val : Nat) : Int) % 128 := by decide +kernel
  exact key ⟨n, hn⟩

set_option maxHeartbeats 1000000 in
theorem lebPutS (w : World) (base : Nat) (v : Value) (l : List Int) (V : Int) (h0 : -9223372036854775808 ≤ V) (h1 : V ≤ 9223372036854775807) (hbase : base ≤ w.heap.size) (hown : Own w base v l) (hlen : l.length + (sL V).length ≤ 1000000000) :
    Calls Try.prog 12 #[v, .int .i64 V] w (PutPost w base (l ++ sL V)) := by
  obtain ⟨i0, hi0, hz0, hz1, hz2⟩ := info_parts info5
  have HO0 := hid hown
  have HL := hid hlen
  clear hown hlen
  go_enter Try.func12, Try.ntmps12
  go_wp2
  go_loopw [0, 1] (fun v0 v1 wr => ∃ (x : Int) (d : List Int), v1 = .int .i64 x ∧ -9223372036854775808 ≤ x ∧ x ≤ 9223372036854775807 ∧ Hid (Own wr base v0 (l ++ d)) ∧ Hid (sL V = d ++ sL x) ∧ base ≤ wr.heap.size ∧ Hid (Below base w wr)) (fun _ v1 _ => (intOf v1).natAbs)
  case atStart => exact ⟨V, [], rfl, h0, h1, hid (by rw [List.append_nil]; exact HO0.out), rfl, hbase, Below.refl _ _⟩
  case round =>
    obtain ⟨x, d, rfl, hx0, hx1, HO, HE, hsz, HB⟩ := hrel
    have hdl : l.length + d.length + (sL x).length ≤ 1000000000 := by
      have q1 := HL.out; rw [HE.out] at q1; simp at q1; omega
    have hp := sL_pos x
    by_cases hx : -64 ≤ x ∧ x < 64
    · obtain ⟨hxa, hxb⟩ := hx
      have hor := and127 (x % 256) (by omega) (by omega)
      have e1 : x % 256 % 128 = x % 128 := by omega
      rw [e1] at hor
      clear e1
      go_wp2_with (first | (at_builtin; refine wpList_append_own _ rfl _ _ 22 rfl base 5 i0 (.int .u8 0) 1 1 Try.underlying22 hi0 hz0 hz1 hz2 rfl (by decide) _ _ _ rfl (HO.out.alloc _) ⟨wr.heap.size, 0, none⟩ 1 1 [.int .u8 (x % 128)] rfl rfl ?_ ?_ ?_ ?_ ?_ ?_))
      (all_goals try (first | (exact one_new _ _ _) | (intro u hu; simp at hu; subst hu; rfl) | rfl | (unfold maxLen; first | omega | (simp; omega)) | omega | (simp; omega)))
      intro v1 w1 hown1 hgrow _
      obtain ⟨k1, k2, k3⟩ := Own.step HB.out hsz HO.out hown1 (by simp) hgrow
      have K1 := hid k1
      have K2 := hid k2
      clear k1 k2 hown1 hgrow hor
      go_wp2
      go_ret
      exact ⟨v1, rfl, by rw [HE.out, sL_small ⟨hxa, hxb⟩, ← List.append_assoc]; exact K1.out, K2.out, k3⟩
    · have HX := hid hx
      rcases (show x < -64 ∨ 64 ≤ x by omega) with hx' | hx'
      all_goals
        clear hx
        have hor := or128 (x % 256) (by omega) (by omega)
        have e1 : x % 256 % 128 + 128 = x % 128 + 128 := by omega
        rw [e1] at hor
        clear e1
        go_wp2_with (first | (at_builtin; refine wpList_append_own _ rfl _ _ 22 rfl base 5 i0 (.int .u8 0) 1 1 Try.underlying22 hi0 hz0 hz1 hz2 rfl (by decide) _ _ _ rfl (HO.out.alloc _) ⟨wr.heap.size, 0, none⟩ 1 1 [.int .u8 (x % 128 + 128)] rfl rfl ?_ ?_ ?_ ?_ ?_ ?_))
        (all_goals try (first | (exact one_new _ _ _) | (intro u hu; simp at hu; subst hu; rfl) | rfl | (unfold maxLen; first | omega | (simp; omega)) | omega | (simp; omega)))
        intro v1 w1 hown1 hgrow _
        obtain ⟨k1, k2, k3⟩ := Own.step HB.out hsz HO.out hown1 (by simp) hgrow
        have K1 := hid k1
        have K2 := hid k2
        clear k1 k2 hown1 hgrow hor
        go_wp2
        go_roundw
        case rel => exact ⟨x / 128, d ++ [x % 128 + 128], by go_num, by omega, by omega, hid (by rw [← List.append_assoc]; exact K1.out), hid (by rw [HE.out, sL_big HX.out]; simp), k3, K2⟩
        case measure => simp [intOf]; omega

/-- the bytes of a number without a sign, in some more than it needs -/
def rU (x m : Int) : List Int := if h : x ≤ 127 ∧ m ≤ 0 then [x % 256] else (x % 128 + 128) :: rU (x / 128) (if x ≤ 127 then m - 1 else m)
termination_by x.toNat + m.toNat
decreasing_by split <;> omega
theorem rU_small {x m : Int} (h : x ≤ 127 ∧ m ≤ 0) : rU x m = [x % 256] := by rw [rU, dif_pos h]
theorem rU_big {x m : Int} (h : ¬ (x ≤ 127 ∧ m ≤ 0)) : rU x m = (x % 128 + 128) :: rU (x / 128) (if x ≤ 127 then m - 1 else m) := by rw [rU, dif_neg h]
theorem rU_pos (x m : Int) : 1 ≤ (rU x m).length := by
  by_cases h : x ≤ 127 ∧ m ≤ 0
  · rw [rU_small h]; simp
  · rw [rU_big h]; simp

end Go.Proofs.Ytlpocahflolmpaa
