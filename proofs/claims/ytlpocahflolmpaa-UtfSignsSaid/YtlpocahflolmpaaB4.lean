/- The reference's PutS; how many bytes a number has. -/
import Derived.Test.YtlpocahflolmpaaB3
namespace Go.Proofs.Ytlpocahflolmpaa
set_option linter.unusedVariables false
set_option linter.unusedSimpArgs false
open Go.RowKit

/-- the bytes of a number with a sign, in some more than it needs -/
def rS (x m : Int) : List Int := if h : (-64 ≤ x ∧ x < 64) ∧ m ≤ 0 then [x % 128] else (x % 128 + 128) :: rS (x / 128) (if -64 ≤ x ∧ x < 64 then m - 1 else m)
termination_by x.natAbs + m.toNat
decreasing_by split <;> omega
theorem rS_small {x m : Int} (h : (-64 ≤ x ∧ x < 64) ∧ m ≤ 0) : rS x m = [x % 128] := by rw [rS, dif_pos h]
theorem rS_big {x m : Int} (h : ¬ ((-64 ≤ x ∧ x < 64) ∧ m ≤ 0)) : rS x m = (x % 128 + 128) :: rS (x / 128) (if -64 ≤ x ∧ x < 64 then m - 1 else m) := by rw [rS, dif_neg h]
theorem rS_pos (x m : Int) : 1 ≤ (rS x m).length := by
  by_cases h : (-64 ≤ x ∧ x < 64) ∧ m ≤ 0
  · rw [rS_small h]; simp
  · rw [rS_big h]; simp

theorem td (x : Int) : (x - x % 128).tdiv 128 = x / 128 := by
  have e : x - x % 128 = 128 * (x / 128) := by omega
  rw [e, Int.mul_tdiv_cancel_left _ (by decide)]

set_option maxHeartbeats 1000000 in
theorem refPutS (w : World) (A : Option Addr) (c : Nat) (l : List Int) (V m : Int) (h0 : -9223372036854775808 ≤ V) (h1 : V ≤ 9223372036854775807) (hm0 : 0 ≤ m) (hm1 : m ≤ 1000) (hsrc : Src w w.heap.size A c l) (hlen : l.length + (rS V m).length ≤ 1000000000) :
    Calls Try.prog 10 #[.slice A l.length c, .int .i64 V, .int .i64 m] w (PutPost w w.heap.size (l ++ rS V m)) := by
  obtain ⟨i0, hi0, hz0, hz1, hz2⟩ := info_parts info5
  have HS := hid hsrc
  have HL := hid hlen
  have hl2 : l.length ≤ 1000000000 := by omega
  clear hsrc hlen
  have HE0 : Hid ((w.alloc (.cells #[] 5)).ownsRow w.heap.size 5 1 (.slice (some ⟨w.heap.size, 0, none⟩) 0 0) 0 []) := World.ownsRow_lit w #[] 0 (Nat.le_refl _) (by decide) rfl
  go_enter Try.func10, Try.ntmps10
  go_wp2_with (first | (at_builtin; refine wpList_append_src rfl _ _ 22 rfl w.heap.size 5 i0 (.int .u8 0) Try.underlying22 hi0 hz0 hz1 hz2 rfl _ 0 [] rfl HE0.out w.heap.size A c l rfl (HS.out.keep (fun p hp => World.cell?_of_block (w := w) (Below.heap_alloc _ _ _ hp))) (by omega) (by simp) ?_))
  intro v1 w1 hown1 hgrow
  obtain ⟨k1, k2, k3⟩ : Own w1 w.heap.size v1 (l ++ []) ∧ Below w.heap.size w w1 ∧ w.heap.size ≤ w1.heap.size := by
    refine ⟨?_, ?_, ?_⟩
    · unfold Own; simpa [bv] using hown1
    · exact ((Below.refl _ _).alloc (Nat.le_refl _) _).grown hgrow (by simp) (fun k hk => (World.ownsRow.lt HE0.out _ hk).1)
    · have := hgrow.size; simp at this; omega
  have K1 := hid k1
  have K2 := hid k2
  clear k1 k2 hown1 hgrow
  go_wp2
  go_loopw [1, 2, 7] (fun v1 v2 v7 wr => ∃ (x y : Int) (d : List Int), v1 = .int .i64 x ∧ v2 = .int .i64 y ∧ -9223372036854775808 ≤ x ∧ x ≤ 9223372036854775807 ∧ 0 ≤ y ∧ y ≤ 1000 ∧ Hid (Own wr w.heap.size v7 (l ++ d)) ∧ Hid (rS V m = d ++ rS x y) ∧ w.heap.size ≤ wr.heap.size ∧ Hid (Below w.heap.size w wr)) (fun v1 v2 _ _ => (intOf v1).natAbs + (intOf v2).toNat)
  case atStart => exact ⟨V, m, [], rfl, rfl, h0, h1, hm0, hm1, K1, rfl, k3, K2⟩
  case round =>
    obtain ⟨x, y, d, rfl, rfl, hx0, hx1, hy0, hy1, HO, HE, hsz, HB⟩ := hrel
    have hdl : l.length + d.length + (rS x y).length ≤ 1000000000 := by
      have q1 := HL.out; rw [HE.out] at q1; simp at q1; omega
    have hp := rS_pos x y
    have hm0 : x.tmod 128 < 0 → x.tmod 128 + 128 = x % 128 := fun h => by have := Int.tmod_eq_emod (a := x) (b := 128); split at this <;> omega
    have hm1 : 0 ≤ x.tmod 128 → x.tmod 128 = x % 128 := fun h => by have := Int.tmod_eq_emod (a := x) (b := 128); split at this <;> omega
    have hd0 := td x
    have hb0 : -128 < x.tmod 128 ∧ x.tmod 128 < 128 := by have := Int.tmod_eq_emod (a := x) (b := 128); split at this <;> omega
    by_cases hs : -64 ≤ x ∧ x < 64
    · by_cases hy : y ≤ 0
      · have HX := hid (show (-64 ≤ x ∧ x < 64) ∧ y ≤ 0 from ⟨hs, hy⟩)
        obtain ⟨hs0, hs1⟩ := hs
        have HM0 := hid hm0
        have HM1 := hid hm1
        have HD := hid hd0
        clear hm0 hm1 hd0 hb0
        by_cases hneg : x < 0
        · have HXM := hid (show x % 128 = x + 128 by omega)
          go_wp2_with (first | (at_builtin; refine wpList_append_own _ rfl _ _ 22 rfl w.heap.size 5 i0 (.int .u8 0) 1 1 Try.underlying22 hi0 hz0 hz1 hz2 rfl (by decide) _ _ _ rfl (HO.out.alloc _) ⟨wr.heap.size, 0, none⟩ 1 1 [.int .u8 (x + 128)] rfl rfl ?_ ?_ ?_ ?_ ?_ ?_))
          (all_goals try (first | (exact one_new _ _ _) | (intro u hu; simp at hu; subst hu; rfl) | rfl | (unfold maxLen; first | omega | (simp; omega)) | omega | (simp; omega)))
          intro v1 w1 hown1 hgrow _
          obtain ⟨k1, k2, k3⟩ := Own.step HB.out hsz HO.out hown1 (by simp) hgrow
          have K1 := hid k1
          have K2 := hid k2
          clear k1 k2 hown1 hgrow
          go_wp2
          go_ret
          exact ⟨v1, rfl, by rw [HE.out, rS_small HX.out, HXM.out, ← List.append_assoc]; exact K1.out, K2.out, k3⟩
        · have HXM := hid (show x % 128 = x by omega)
          go_wp2_with (first | (at_builtin; refine wpList_append_own _ rfl _ _ 22 rfl w.heap.size 5 i0 (.int .u8 0) 1 1 Try.underlying22 hi0 hz0 hz1 hz2 rfl (by decide) _ _ _ rfl (HO.out.alloc _) ⟨wr.heap.size, 0, none⟩ 1 1 [.int .u8 x] rfl rfl ?_ ?_ ?_ ?_ ?_ ?_))
          (all_goals try (first | (exact one_new _ _ _) | (intro u hu; simp at hu; subst hu; rfl) | rfl | (unfold maxLen; first | omega | (simp; omega)) | omega | (simp; omega)))
          intro v1 w1 hown1 hgrow _
          obtain ⟨k1, k2, k3⟩ := Own.step HB.out hsz HO.out hown1 (by simp) hgrow
          have K1 := hid k1
          have K2 := hid k2
          clear k1 k2 hown1 hgrow
          go_wp2
          go_ret
          exact ⟨v1, rfl, by rw [HE.out, rS_small HX.out, HXM.out, ← List.append_assoc]; exact K1.out, K2.out, k3⟩
      · have HX := hid (show ¬ ((-64 ≤ x ∧ x < 64) ∧ y ≤ 0) by omega)
        have HI := hid (show (if -64 ≤ x ∧ x < 64 then y - 1 else y) = y - 1 from if_pos hs)
        obtain ⟨hs0, hs1⟩ := hs
        rcases Int.lt_or_le (x.tmod 128) 0 with hneg | hneg
        · have HM := hid (hm0 hneg)
          have HD := hid (show (x - (x.tmod 128 + 128)).tdiv 128 = x / 128 by rw [hm0 hneg]; exact hd0)
          clear hm0 hm1 hd0
          go_wp2_with (first | (at_builtin; refine wpList_append_own _ rfl _ _ 22 rfl w.heap.size 5 i0 (.int .u8 0) 1 1 Try.underlying22 hi0 hz0 hz1 hz2 rfl (by decide) _ _ _ rfl (HO.out.alloc _) ⟨wr.heap.size, 0, none⟩ 1 1 [.int .u8 (x.tmod 128 + 128 + 128)] rfl rfl ?_ ?_ ?_ ?_ ?_ ?_))
          (all_goals try (first | (exact one_new _ _ _) | (intro u hu; simp at hu; subst hu; rfl) | rfl | (unfold maxLen; first | omega | (simp; omega)) | omega | (simp; omega)))
          intro v1 w1 hown1 hgrow _
          obtain ⟨k1, k2, k3⟩ := Own.step HB.out hsz HO.out hown1 (by simp) hgrow
          have K1 := hid k1
          have K2 := hid k2
          clear k1 k2 hown1 hgrow
          go_wp2
          go_roundw
          case rel => exact ⟨x / 128, y - 1, d ++ [x % 128 + 128], by first | (rw [← HD.out]; done) | (rw [← HD.out]; go_num), by go_num, by omega, by omega, by omega, by omega, hid (by rw [← HM.out, ← List.append_assoc]; exact K1.out), hid (by rw [HE.out, rS_big HX.out, HI.out]; simp), k3, K2⟩
          case measure => (first | (simp only [intOf]; rw [HD.out]; omega) | (simp [intOf, HD.out]; omega))
        · have HM := hid (hm1 hneg)
          have HD := hid (show (x - x.tmod 128).tdiv 128 = x / 128 by rw [hm1 hneg]; exact hd0)
          clear hm0 hm1 hd0
          go_wp2_with (first | (at_builtin; refine wpList_append_own _ rfl _ _ 22 rfl w.heap.size 5 i0 (.int .u8 0) 1 1 Try.underlying22 hi0 hz0 hz1 hz2 rfl (by decide) _ _ _ rfl (HO.out.alloc _) ⟨wr.heap.size, 0, none⟩ 1 1 [.int .u8 (x.tmod 128 + 128)] rfl rfl ?_ ?_ ?_ ?_ ?_ ?_))
          (all_goals try (first | (exact one_new _ _ _) | (intro u hu; simp at hu; subst hu; rfl) | rfl | (unfold maxLen; first | omega | (simp; omega)) | omega | (simp; omega)))
          intro v1 w1 hown1 hgrow _
          obtain ⟨k1, k2, k3⟩ := Own.step HB.out hsz HO.out hown1 (by simp) hgrow
          have K1 := hid k1
          have K2 := hid k2
          clear k1 k2 hown1 hgrow
          go_wp2
          go_roundw
          case rel => exact ⟨x / 128, y - 1, d ++ [x % 128 + 128], by first | (rw [← HD.out]; done) | (rw [← HD.out]; go_num), by go_num, by omega, by omega, by omega, by omega, hid (by rw [← HM.out, ← List.append_assoc]; exact K1.out), hid (by rw [HE.out, rS_big HX.out, HI.out]; simp), k3, K2⟩
          case measure => (first | (simp only [intOf]; rw [HD.out]; omega) | (simp [intOf, HD.out]; omega))
    · have HX := hid (show ¬ ((-64 ≤ x ∧ x < 64) ∧ y ≤ 0) by omega)
      have HI := hid (show (if -64 ≤ x ∧ x < 64 then y - 1 else y) = y from if_neg hs)
      by_cases hx' : 64 ≤ x
      · clear hs
        have hlo : -9223372036854775808 ≤ x - x % 128 := by omega
        have hhi : x - x % 128 ≤ 9223372036854775807 := by omega
        have HD := hid (show (x - x % 128) / 128 = x / 128 by omega)
        clear hm0 hm1 hd0 hb0
        go_wp2_with (first | (at_builtin; refine wpList_append_own _ rfl _ _ 22 rfl w.heap.size 5 i0 (.int .u8 0) 1 1 Try.underlying22 hi0 hz0 hz1 hz2 rfl (by decide) _ _ _ rfl (HO.out.alloc _) ⟨wr.heap.size, 0, none⟩ 1 1 [.int .u8 (x % 128 + 128)] rfl rfl ?_ ?_ ?_ ?_ ?_ ?_))
        (all_goals try (first | (exact one_new _ _ _) | (intro u hu; simp at hu; subst hu; rfl) | rfl | (unfold maxLen; first | omega | (simp; omega)) | omega | (simp; omega)))
        intro v1 w1 hown1 hgrow _
        obtain ⟨k1, k2, k3⟩ := Own.step HB.out hsz HO.out hown1 (by simp) hgrow
        have K1 := hid k1
        have K2 := hid k2
        clear k1 k2 hown1 hgrow
        go_wp2
        go_roundw
        case rel => exact ⟨x / 128, y, d ++ [x % 128 + 128], by first | (rw [← HD.out]; done) | (rw [← HD.out]; go_num), by go_num, by omega, by omega, by omega, by omega, hid (by rw [← List.append_assoc]; exact K1.out), hid (by rw [HE.out, rS_big HX.out, HI.out]; simp), k3, K2⟩
        case measure => (first | (simp only [intOf]; rw [HD.out]; omega) | (simp [intOf, HD.out]; omega))
      · replace hx' : x < -64 := by omega
        clear hs
        rcases Int.lt_or_le (x.tmod 128) 0 with hneg | hneg
        · have HM := hid (hm0 hneg)
          have HD := hid (show (x - (x.tmod 128 + 128)).tdiv 128 = x / 128 by rw [hm0 hneg]; exact hd0)
          have hlo : -9223372036854775808 ≤ x - (x.tmod 128 + 128) := by rw [HM.out]; omega
          have hhi : x - (x.tmod 128 + 128) ≤ 9223372036854775807 := by rw [HM.out]; omega
          clear hm0 hm1 hd0
          go_wp2_with (first | (at_builtin; refine wpList_append_own _ rfl _ _ 22 rfl w.heap.size 5 i0 (.int .u8 0) 1 1 Try.underlying22 hi0 hz0 hz1 hz2 rfl (by decide) _ _ _ rfl (HO.out.alloc _) ⟨wr.heap.size, 0, none⟩ 1 1 [.int .u8 (x.tmod 128 + 128 + 128)] rfl rfl ?_ ?_ ?_ ?_ ?_ ?_))
          (all_goals try (first | (exact one_new _ _ _) | (intro u hu; simp at hu; subst hu; rfl) | rfl | (unfold maxLen; first | omega | (simp; omega)) | omega | (simp; omega)))
          intro v1 w1 hown1 hgrow _
          obtain ⟨k1, k2, k3⟩ := Own.step HB.out hsz HO.out hown1 (by simp) hgrow
          have K1 := hid k1
          have K2 := hid k2
          clear k1 k2 hown1 hgrow
          go_wp2
          go_roundw
          case rel => exact ⟨x / 128, y, d ++ [x % 128 + 128], by first | (rw [← HD.out]; done) | (rw [← HD.out]; go_num), by go_num, by omega, by omega, by omega, by omega, hid (by rw [← HM.out, ← List.append_assoc]; exact K1.out), hid (by rw [HE.out, rS_big HX.out, HI.out]; simp), k3, K2⟩
          case measure => (first | (simp only [intOf]; rw [HD.out]; omega) | (simp [intOf, HD.out]; omega))
        · have HM := hid (hm1 hneg)
          have HD := hid (show (x - x.tmod 128).tdiv 128 = x / 128 by rw [hm1 hneg]; exact hd0)
          have hlo : -9223372036854775808 ≤ x - x.tmod 128 := by rw [HM.out]; omega
          have hhi : x - x.tmod 128 ≤ 9223372036854775807 := by rw [HM.out]; omega
          clear hm0 hm1 hd0
          go_wp2_with (first | (at_builtin; refine wpList_append_own _ rfl _ _ 22 rfl w.heap.size 5 i0 (.int .u8 0) 1 1 Try.underlying22 hi0 hz0 hz1 hz2 rfl (by decide) _ _ _ rfl (HO.out.alloc _) ⟨wr.heap.size, 0, none⟩ 1 1 [.int .u8 (x.tmod 128 + 128)] rfl rfl ?_ ?_ ?_ ?_ ?_ ?_))
          (all_goals try (first | (exact one_new _ _ _) | (intro u hu; simp at hu; subst hu; rfl) | rfl | (unfold maxLen; first | omega | (simp; omega)) | omega | (simp; omega)))
          intro v1 w1 hown1 hgrow _
          obtain ⟨k1, k2, k3⟩ := Own.step HB.out hsz HO.out hown1 (by simp) hgrow
          have K1 := hid k1
          have K2 := hid k2
          clear k1 k2 hown1 hgrow
          go_wp2
          go_roundw
          case rel => exact ⟨x / 128, y, d ++ [x % 128 + 128], by first | (rw [← HD.out]; done) | (rw [← HD.out]; go_num), by go_num, by omega, by omega, by omega, by omega, hid (by rw [← HM.out, ← List.append_assoc]; exact K1.out), hid (by rw [HE.out, rS_big HX.out, HI.out]; simp), k3, K2⟩
          case measure => (first | (simp only [intOf]; rw [HD.out]; omega) | (simp [intOf, HD.out]; omega))

end Go.Proofs.Ytlpocahflolmpaa
