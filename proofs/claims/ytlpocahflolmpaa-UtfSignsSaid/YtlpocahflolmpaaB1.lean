/- Numbers without a sign as bytes: leb.PutU. -/
import Derived.Test.YtlpocahflolmpaaB0
namespace Go.Proofs.Ytlpocahflolmpaa
set_option linter.unusedVariables false
set_option linter.unusedSimpArgs false
open Go.RowKit

/-- the bytes of a number without a sign -/
def uL (x : Int) : List Int := if h : x < 128 then [x] else (x % 128 + 128) :: uL (x / 128)
termination_by x.toNat
decreasing_by omega
theorem uL_small {x : Int} (h : x < 128) : uL x = [x] := by rw [uL, dif_pos h]
theorem uL_big {x : Int} (h : 128 ≤ x) : uL x = (x % 128 + 128) :: uL (x / 128) := by rw [uL, dif_neg (by omega)]
theorem uL_pos (x : Int) : 1 ≤ (uL x).length := by
  by_cases h : x < 128
  · rw [uL_small h]; simp
  · rw [uL_big (by omega)]; simp

theorem or128 (x : Int) (h0 : 0 ≤ x) (h : x < 256) : bits .or .u8 x 128 = x % 128 + 128 := by
  obtain ⟨n, rfl⟩ : ∃ n : Nat, x = n := ⟨x.toNat, by omega⟩
  have hn : n < 256 := by omega
  have key : ∀ m : Fin 256, bits .or .u8 ((m.val : Nat) : Int) 128 = ((m.val : Nat) : Int) % 128 + 128 := by decide +kernel
  exact key ⟨n, hn⟩

def PutPost (w : World) (base : Nat) (l : List Int) (e : Ending) (w' : World) : Prop := ∃ v, e = .returned v ∧ Own w' base v l ∧ Below base w w' ∧ base ≤ w'.heap.size

set_option maxHeartbeats 1000000 in
theorem lebPutU (w : World) (base : Nat) (v : Value) (l : List Int) (V : Int) (h0 : 0 ≤ V) (h1 : V ≤ 18446744073709551615) (hbase : base ≤ w.heap.size) (hown : Own w base v l) (hlen : l.length + (uL V).length ≤ 1000000000) :
    Calls Try.prog 11 #[v, .int .u64 V] w (PutPost w base (l ++ uL V)) := by
  obtain ⟨i0, hi0, hz0, hz1, hz2⟩ := info_parts info5
  have HO0 := hid hown
  have HL := hid hlen
  clear hown hlen
  go_enter Try.func11, Try.ntmps11
  go_wp2
  go_loopw [0, 1] (fun v0 v1 wr => ∃ (x : Int) (d : List Int), v1 = .int .u64 x ∧ 0 ≤ x ∧ x ≤ 18446744073709551615 ∧ Hid (Own wr base v0 (l ++ d)) ∧ Hid (uL V = d ++ uL x) ∧ base ≤ wr.heap.size ∧ Hid (Below base w wr)) (fun _ v1 _ => (intOf v1).toNat)
  case atStart => exact ⟨V, [], rfl, h0, h1, hid (by rw [List.append_nil]; exact HO0.out), rfl, hbase, Below.refl _ _⟩
  case round =>
    obtain ⟨x, d, rfl, hx0, hx1, HO, HE, hsz, HB⟩ := hrel
    have hdl : l.length + d.length + (uL x).length ≤ 1000000000 := by
      have q1 := HL.out; rw [HE.out] at q1; simp at q1; omega
    have hp := uL_pos x
    by_cases hx : 128 ≤ x
    · have hor := or128 (x % 256) (by omega) (by omega)
      have e1 : x % 256 % 128 + 128 = x % 128 + 128 := by omega
      rw [e1] at hor
      clear e1
      go_wp2_with (first | (at_builtin; refine wpList_append_own _ rfl _ _ 22 rfl base 5 i0 (.int .u8 0) 1 1 Try.underlying22 hi0 hz0 hz1 hz2 rfl (by decide) _ _ _ rfl (HO.out.alloc _) ⟨wr.heap.size, 0, none⟩ 1 1 [.int .u8 (x % 128 + 128)] rfl rfl ?c1 ?c2 ?c3 ?c4 ?c5 ?c6))
      case c1 => exact one_new _ _ _
      case c2 => intro u hu; simp at hu; subst hu; rfl
      case c3 => unfold maxLen; first | omega | (simp; omega)
      case c4 => first | omega | (simp; omega)
      case c5 => first | omega | (simp; omega)
      case c6 =>
        intro v1 w1 hown1 hgrow _
        obtain ⟨k1, k2, k3⟩ := Own.step HB.out hsz HO.out hown1 (by simp) hgrow
        have K1 := hid k1
        have K2 := hid k2
        clear k1 k2 hown1 hgrow hor
        go_wp2
        go_roundw
        case rel => exact ⟨x / 128, d ++ [x % 128 + 128], by go_num, by omega, by omega, hid (by rw [← List.append_assoc]; exact K1.out), hid (by rw [HE.out, uL_big hx]; simp), k3, K2⟩
        case measure => simp [intOf]; omega
    · go_wp2_with (first | (at_builtin; refine wpList_append_own _ rfl _ _ 22 rfl base 5 i0 (.int .u8 0) 1 1 Try.underlying22 hi0 hz0 hz1 hz2 rfl (by decide) _ _ _ rfl (HO.out.alloc _) ⟨wr.heap.size, 0, none⟩ 1 1 [.int .u8 x] rfl rfl ?d1 ?d2 ?d3 ?d4 ?d5 ?d6))
      case d2 => first | rfl | (intro u hu; simp at hu; subst hu; rfl)
      case d3 => unfold maxLen; omega
      case d4 => omega
      case d5 => first | omega | (simp; omega)
      case d6 =>
        intro v1 w1 hown1 hgrow _
        obtain ⟨k1, k2, k3⟩ := Own.step HB.out hsz HO.out hown1 (by simp) hgrow
        have K1 := hid k1
        have K2 := hid k2
        clear k1 k2 hown1 hgrow
        go_wp2
        go_ret
        exact ⟨v1, rfl, by rw [HE.out, uL_small (by omega), ← List.append_assoc]; exact K1.out, K2.out, k3⟩

end Go.Proofs.Ytlpocahflolmpaa
