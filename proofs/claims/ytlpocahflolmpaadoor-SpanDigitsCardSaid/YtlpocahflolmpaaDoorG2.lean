/- The statement SpanDigits: its walk. -/
import Derived.Test.YtlpocahflolmpaaDoorG1b
import Derived.Test.YtlpocahflolmpaaDoorF3
namespace Go.Proofs.YtlpocahflolmpaaDoor
set_option linter.unusedVariables false
set_option linter.unusedSimpArgs false
open Go.RowKit Lb

theorem chain2 {w w1 w2 : World} (h1 : Below w.heap.size w w1) (h2 : Below w1.heap.size w1 w2) (hs : w.heap.size ≤ w1.heap.size) : Below w.heap.size w w2 ∧ w.heap.size ≤ w2.heap.size :=
  ⟨h1.trans (h2.mono hs), Nat.le_trans hs h2.size⟩

def XAt (w : World) (g : Nat) (lo hi : Int) : Prop := w.cell? ⟨g, 0, none⟩ = some (.int .u64 lo) ∧ w.cell? ⟨g, 1, none⟩ = some (.int .u64 hi) ∧ g < w.heap.size
theorem XAt.keep {w w' : World} {g : Nat} {lo hi : Int} (h : XAt w g lo hi) (hb : Below w.heap.size w w') : XAt w' g lo hi :=
  ⟨by rw [hb.cell h.2.2]; exact h.1, by rw [hb.cell h.2.2]; exact h.2.1, Nat.lt_of_lt_of_le h.2.2 hb.size⟩

theorem xr (w : World) (lo hi : Int) (h0 : 0 ≤ lo) (h1 : lo ≤ 18446744073709551615) (h2 : 0 ≤ hi) (h3 : hi ≤ 18446744073709551615) : RangesAt (w.alloc (.cells #[.int .u64 lo, .int .u64 hi] 27)) w.heap.size [(lo, hi)] := by
  intro i h
  obtain rfl : i = 0 := by simpa using h
  exact ⟨by simp [World.cell?_alloc_new], by simp [World.cell?_alloc_new], h0, h1, h2, h3⟩

set_option maxRecDepth 100000 in
set_option maxHeartbeats 8000000 in
theorem digits_r (v lo wide n : Int) (w : World) (hG : Glob w) (v0 : 0 ≤ v) (v1 : v ≤ 4294967295) (l0 : 0 ≤ lo) (l1 : lo ≤ 4294967295) (i0 : 0 ≤ wide) (i1 : wide ≤ 4294967295) (n0 : 0 ≤ n) (n1 : n ≤ 255) :
    Calls Tryd.prog 5 #[.agg #[.int .u32 v, .int .u32 lo, .int .u32 wide], .int .u8 n] w (fun e w' => e = .returned (.bool true) ∧ Below w.heap.size w w') := by
  obtain ⟨U, hU⟩ : ∃ U, rU v (n % 5) = U := ⟨_, rfl⟩
  obtain ⟨U0, hU0⟩ : ∃ U, rU v 0 = U := ⟨_, rfl⟩
  have DGU := hid (show Dg v U by rw [← hU]; exact Dg.of v0 (by omega))
  have DGU0 := hid (show Dg v U0 by rw [← hU0]; exact Dg.of v0 (by omega))
  have lU0 : U0.length ≤ 5 := by rw [← hU0, rU_zero v v0]; exact uL_len 4 v v0 (by omega)
  have HU := hid hU
  have HU0 := hid hU0
  have HG := hid hG
  clear hU hU0 hG
  go_enter Tryd.func5, Tryd.ntmps5
  go_wp2
  go_quiet (fail)
  have KQ := hid (show Below w.heap.size w ((w.alloc (Obj.cells #[Value.int IntKind.u32 v, Value.int IntKind.u32 lo, Value.int IntKind.u32 wide] 44)).drewN nq) from ⟨rfl, rfl, rfl, by simp, fun k hk => Below.heap_alloc _ _ _ hk⟩)
  have zq : w.heap.size ≤ ((w.alloc (Obj.cells #[Value.int IntKind.u32 v, Value.int IntKind.u32 lo, Value.int IntKind.u32 wide] 44)).drewN nq).heap.size := KQ.out.size
  go_upto_if 30 with (first
    | (go_at_call 17; ((with_reducible refine (putU_nil v0 (by omega) (by omega) (by omega) HU.out w.heap.size zq).mono ?_); rintro e w' ⟨g, cap, rfl, hown, hb1⟩; have k1 := chain2 KQ.out hb1 zq; have zz1 := k1.2; have K1 := hid k1.1; have OU := hid hown; clear k1 hb1 hown)))
  obtain ⟨w2, rfl⟩ : ∃ w2 : World, w2 = w' := ⟨_, rfl⟩
  go_cut [8] (fun s8 wx => ∃ gu cu L, s8 = .slice (some ⟨gu, 0, none⟩) (List.length L) cu ∧ Hid (Dg v L) ∧ L.length ≤ 5 ∧ Hid (OwnAt wx w.heap.size gu cu L) ∧ w.heap.size ≤ wx.heap.size ∧ Hid (Below w.heap.size w wx))
  case first =>
    by_cases hl : U.length ≤ 5
    · go_wp2
      go_meet
      exact ⟨_, _, _, rfl, DGU, hl, OU, zz1, K1⟩
    · go_wp2_with (first
        | (go_at_call 17; ((with_reducible refine (putU_nil v0 (by omega) (by omega) (by omega) HU0.out w.heap.size zz1).mono ?_); rintro e w' ⟨g3, cap3, rfl, hown, hb1⟩; have k1 := chain2 K1.out hb1 zz1; have zz3 := k1.2; have K3 := hid k1.1; have OU3 := hid hown; clear k1 hb1 hown)))
      go_meet
      exact ⟨_, _, _, rfl, DGU0, lU0, OU3, zz3, K3⟩
  case rest =>
    obtain ⟨gu, cu, L, rfl, DL, lL, OL, zz4, K4⟩ := hcut
    obtain ⟨w4, rfl⟩ : ∃ w4 : World, w4 = wc := ⟨_, rfl⟩
    clear K1 OU DGU DGU0 HU HU0 lU0 KQ zq
    have pL : 1 ≤ L.length := DL.out.pos
    go_upto_region 6 with (fail)
    obtain ⟨hi, hhi⟩ : ∃ hi, (if lo + wide % 300 < 4294967295 then lo + wide % 300 else 4294967295) = hi := ⟨_, rfl⟩
    have hh0 : 0 ≤ hi := by rw [← hhi]; split <;> omega
    have hle : lo ≤ hi := by rw [← hhi]; split <;> omega
    have hh1 : hi ≤ 4294967295 := by rw [← hhi]; split <;> omega
    rw [hhi]
    clear hhi
    have XA := hid (show XAt (w4.alloc (.cells #[.int .u64 lo, .int .u64 hi] 27)) w4.heap.size lo hi from ⟨by simp [Addr.add, World.cell?_alloc_new], by simp [Addr.add, World.cell?_alloc_new], by simp⟩)
    have k5 := chain2 K4.out ((Below.refl w4.heap.size w4).alloc (Nat.le_refl _) (.cells #[.int .u64 lo, .int .u64 hi] 27)) zz4
    have OL5 := hid (OL.out.keep ((Below.refl w4.heap.size w4).alloc (Nat.le_refl _) (.cells #[.int .u64 lo, .int .u64 hi] 27)))
    have zz5 := k5.2
    have K5 := hid k5.1
    clear k5 OL K4 zz4
    obtain ⟨gx, hgx⟩ : ∃ gx, w4.heap.size = gx := ⟨_, rfl⟩
    obtain ⟨w5, hw5⟩ : ∃ w5, w4.alloc (.cells #[.int .u64 lo, .int .u64 hi] 27) = w5 := ⟨_, rfl⟩
    rw [hw5] at XA OL5 K5 zz5 ⊢
    rw [hgx] at XA ⊢
    clear hgx hw5
    go_cut [10] (fun s10 wx => ∃ D, s10 = .bool D ∧ Hid (D = decide (lo ≤ v ∧ v ≤ hi)) ∧ wx = w5)
    case first =>
      have X1 := XA.out.1
      have X2 := XA.out.2.1
      by_cases c1 : lo ≤ v
      · go_wp2
        go_meet
        exact ⟨_, rfl, hid (by simp [c1]), rfl⟩
      · go_wp2
        go_meet
        exact ⟨_, rfl, hid (by simp; omega), rfl⟩
    case rest =>
      obtain ⟨D, rfl, HD, rfl⟩ := hcut
      have DLb := hid DL.out.bytes
      go_wp2_with fail
      go_loopw [11, 12] (fun v11 v12 wr => ∃ (i : Nat), v11 = .int .u64 (val (L.take i)) ∧ v12 = .int .i64 i ∧ i ≤ L.length ∧ Hid (i = L.length → lo ≤ v ∧ v ≤ hi) ∧ Hid (OwnAt wr w.heap.size gu cu L) ∧ Hid (XAt wr gx lo hi) ∧ w.heap.size ≤ wr.heap.size ∧ Hid (Below w.heap.size w wr)) (fun _ v12 _ => L.length - (intOf v12).toNat)
      case atStart => exact ⟨0, by simp [val], by go_num, by omega, hid (fun h => by omega), OL5, XA, zz5, K5⟩
      case round =>
        obtain ⟨i, rfl, rfl, hil, HIN, OA, XB, zr, KR⟩ := hrel
        by_cases hlt : i < L.length
        · obtain ⟨b, hb⟩ : ∃ b, L[i]? = some b := ⟨_, List.getElem?_eq_getElem hlt⟩
          have hbb := DLb.out b (List.mem_of_getElem? hb)
          have bb0 := hbb.1
          have bb1 : b ≤ 255 := by omega
          have hcell : wr.cell? ⟨gu, i, none⟩ = some (.int .u8 b) := by
            have := OA.out.cells (g := gu) (by rfl) i _ (by unfold bv; rw [List.getElem?_map, hb]; rfl)
            rw [Addr.add_lit, Nat.zero_add] at this; exact this
          have hlen : (i : Int) < (L.length : Int) := by omega
          have hcu : L.length ≤ cu := OA.out.cap_le (by omega)
          have HR := hid (fun sh left h1 h2 => Round.of (v := v) (lo := lo) (hi := hi) DL.out lL hb v0 v1 l0 hh1 sh left h1 h2)
          have HS := hid (val_step hb)
          have hlast := hid (DL.out.last hb)
          obtain ⟨s, hs⟩ : ∃ s, val (L.take i) = s := ⟨_, rfl⟩
          have s0 : 0 ≤ s := by rw [← hs]; exact (val_lt _).1
          have s1 : s < 128 ^ i := by
            rw [← hs]
            have := (val_lt (L.take i)).2
            rwa [List.length_take, Nat.min_eq_left (by omega)] at this
          rw [hs] at HS ⊢
          clear hb hs hbb
          have XC := XB.out.1
          have XD := XB.out.2.1
          have XE := XB.out.2.2
          obtain rfl | rfl | rfl | rfl | rfl : i = 0 ∨ i = 1 ∨ i = 2 ∨ i = 3 ∨ i = 4 := by omega
          -- ROUNDS
          · have HRa := HR.out 7
            rw [HS.out] at HRa
            simp at s1
            by_cases b8 : b < 128
            · have HR1 := hid (fun q : b < 128 => (show Round v lo hi L 0 (s + b % 128) 7 0 from by have := HRa 0 rfl (by simp [q]); simpa using this))
              clear HRa HR
              have R := hid (HR1.out b8)
              obtain ⟨F, hF⟩ : ∃ F, fitD (s + b % 128) 7 0 lo hi = F := ⟨_, rfl⟩
              have HCALL := hid (show Calls Tryd.prog 15 #[.slice (some ⟨wr.heap.size, 0, none⟩) 1 1, .int .u64 (s + b % 128), .int .i64 7, .int .i64 0, .int .i64 32] (wr.alloc (.cells #[.int .u64 lo, .int .u64 hi] 27)) (fun e w' => e = .returned (.bool F) ∧ Below (wr.alloc (.cells #[.int .u64 lo, .int .u64 hi] 27)).heap.size (wr.alloc (.cells #[.int .u64 lo, .int .u64 hi] 27)) w') from by rw [← hF]; exact fits_any _ 1 [(lo, hi)] (s + b % 128) 7 0 32 _ (by simp) (by simp) (hid (xr wr lo hi l0 (by omega) hh0 (by omega))) R.out.s0 R.out.s1 (by decide) (by decide) (by decide) (by decide) (by decide) (by decide))
              have HFIT := hid R.out.fit
              have HLAST := hid R.out.last
              have HNO := hid R.out.no
              rw [hF] at HFIT HLAST HNO
              have ka := chain2 KR.out ((Below.refl wr.heap.size wr).alloc (Nat.le_refl _) (.cells #[.int .u64 lo, .int .u64 hi] 27)) zr
              have KA := hid ka.1
              have za := ka.2
              have OA1 := hid (OA.out.keep ((Below.refl wr.heap.size wr).alloc (Nat.le_refl _) (.cells #[.int .u64 lo, .int .u64 hi] 27)))
              have XA1 := hid (XB.out.keep ((Below.refl wr.heap.size wr).alloc (Nat.le_refl _) (.cells #[.int .u64 lo, .int .u64 hi] 27)))
              clear ka hF
              cases F
              · have hD : D = false := by rw [HD.out]; simp; exact fun q1 => by have := fun q2 => HFIT.out ⟨q1, q2⟩; simp at this; omega
                subst hD
                have HNO2 := hid (fun x h1 h2 => HNO.out rfl x h1 h2)
                go_wp2_with (first | (go_at_call 15; ((with_reducible refine HCALL.out.mono ?_); rintro e w' ⟨rfl, hb1⟩; have k1 := chain2 KA.out hb1 za; have z1 := k1.2; have K1 := hid k1.1; have OA2 := hid (OA1.out.keep hb1); have XA2 := hid (XA1.out.keep hb1); have XF := XA2.out.1; have XG := XA2.out.2.1; clear k1 hb1)))
                go_loopw [15] (fun v15 wq => ∃ x : Int, v15 = .int .u64 x ∧ lo ≤ x ∧ x ≤ hi + 1 ∧ wq = w') (fun v15 _ => (hi + 1 - intOf v15).toNat)
                case atStart => exact ⟨lo, rfl, by omega, by omega, rfl⟩
                case round =>
                  obtain ⟨x, rfl, x0, x1, rfl⟩ := hrel
                  by_cases hx : x ≤ hi
                  · have hn := HNO2.out x x0 hx
                    have q1 : (x == (s + b % 128)) = false := by simp; exact hn.1
                    clear hn
                    go_wp2_with fail
                    go_roundw
                    case rel => exact ⟨x + 1, by go_num, by omega, by omega, by trivial⟩
                    case measure => simp [intOf]; omega
                  · go_wp2_with (first | (go_at_call 14; refine (awake_glob _ (HG.out.of K1.out)).mono ?_; rintro e w8 ⟨rfl, hb8⟩; have k8 := chain2 K1.out hb8 z1))
                    go_ret
                    exact ⟨rfl, k8.1⟩
              · have HREL := hid (show val (List.take (0 + 1) L) = (s + b % 128) by rw [HS.out, show (128 : Int) ^ 0 = 1 by decide]; rw [Int.mul_one])
                have HIN2 := hid (fun q => HLAST.out rfl q)
                cases D
                · go_wp2_with (first | (go_at_call 15; ((with_reducible refine HCALL.out.mono ?_); rintro e w' ⟨rfl, hb1⟩; have k1 := chain2 KA.out hb1 za; have z1 := k1.2; have K1 := hid k1.1; have OA2 := hid (OA1.out.keep hb1); have XA2 := hid (XA1.out.keep hb1); have XF := XA2.out.1; have XG := XA2.out.2.1; clear k1 hb1)))
                  go_roundw
                  case rel => exact ⟨0 + 1, by rw [HREL.out], by go_num, by omega, HIN2, OA2, XA2, z1, K1⟩
                  case measure => simp [intOf]; omega
                · go_wp2_with (first | (go_at_call 15; ((with_reducible refine HCALL.out.mono ?_); rintro e w' ⟨rfl, hb1⟩; have k1 := chain2 KA.out hb1 za; have z1 := k1.2; have K1 := hid k1.1; have OA2 := hid (OA1.out.keep hb1); have XA2 := hid (XA1.out.keep hb1); have XF := XA2.out.1; have XG := XA2.out.2.1; clear k1 hb1)))
                  go_roundw
                  case rel => exact ⟨0 + 1, by rw [HREL.out], by go_num, by omega, HIN2, OA2, XA2, z1, K1⟩
                  case measure => simp [intOf]; omega
            · have HR1 := hid (fun q : ¬ b < 128 => (show Round v lo hi L 0 (s + b % 128) 7 4 from by have := HRa 4 rfl (by simp [q]); simpa using this))
              clear HRa HR
              have R := hid (HR1.out (by omega))
              obtain ⟨F, hF⟩ : ∃ F, fitD (s + b % 128) 7 4 lo hi = F := ⟨_, rfl⟩
              have HCALL := hid (show Calls Tryd.prog 15 #[.slice (some ⟨wr.heap.size, 0, none⟩) 1 1, .int .u64 (s + b % 128), .int .i64 7, .int .i64 4, .int .i64 32] (wr.alloc (.cells #[.int .u64 lo, .int .u64 hi] 27)) (fun e w' => e = .returned (.bool F) ∧ Below (wr.alloc (.cells #[.int .u64 lo, .int .u64 hi] 27)).heap.size (wr.alloc (.cells #[.int .u64 lo, .int .u64 hi] 27)) w') from by rw [← hF]; exact fits_any _ 1 [(lo, hi)] (s + b % 128) 7 4 32 _ (by simp) (by simp) (hid (xr wr lo hi l0 (by omega) hh0 (by omega))) R.out.s0 R.out.s1 (by decide) (by decide) (by decide) (by decide) (by decide) (by decide))
              have HFIT := hid R.out.fit
              have HLAST := hid R.out.last
              have HNO := hid R.out.no
              rw [hF] at HFIT HLAST HNO
              have ka := chain2 KR.out ((Below.refl wr.heap.size wr).alloc (Nat.le_refl _) (.cells #[.int .u64 lo, .int .u64 hi] 27)) zr
              have KA := hid ka.1
              have za := ka.2
              have OA1 := hid (OA.out.keep ((Below.refl wr.heap.size wr).alloc (Nat.le_refl _) (.cells #[.int .u64 lo, .int .u64 hi] 27)))
              have XA1 := hid (XB.out.keep ((Below.refl wr.heap.size wr).alloc (Nat.le_refl _) (.cells #[.int .u64 lo, .int .u64 hi] 27)))
              clear ka hF
              cases F
              · have hD : D = false := by rw [HD.out]; simp; exact fun q1 => by have := fun q2 => HFIT.out ⟨q1, q2⟩; simp at this; omega
                subst hD
                have HNO2 := hid (fun x h1 h2 => HNO.out rfl x h1 h2)
                go_wp2_with (first | (go_at_call 15; ((with_reducible refine HCALL.out.mono ?_); rintro e w' ⟨rfl, hb1⟩; have k1 := chain2 KA.out hb1 za; have z1 := k1.2; have K1 := hid k1.1; have OA2 := hid (OA1.out.keep hb1); have XA2 := hid (XA1.out.keep hb1); have XF := XA2.out.1; have XG := XA2.out.2.1; clear k1 hb1)))
                go_loopw [15] (fun v15 wq => ∃ x : Int, v15 = .int .u64 x ∧ lo ≤ x ∧ x ≤ hi + 1 ∧ wq = w') (fun v15 _ => (hi + 1 - intOf v15).toNat)
                case atStart => exact ⟨lo, rfl, by omega, by omega, rfl⟩
                case round =>
                  obtain ⟨x, rfl, x0, x1, rfl⟩ := hrel
                  by_cases hx : x ≤ hi
                  · have hn := HNO2.out x x0 hx
                    have q1 : (x == (s + b % 128)) = false := by simp; exact hn.1
                    have q2 : (x % 128 == (s + b % 128)) = false := by have := hn.2 (by decide); simpa using this
                    clear hn
                    go_wp2_with fail
                    go_roundw
                    case rel => exact ⟨x + 1, by go_num, by omega, by omega, by trivial⟩
                    case measure => simp [intOf]; omega
                  · go_wp2_with (first | (go_at_call 14; refine (awake_glob _ (HG.out.of K1.out)).mono ?_; rintro e w8 ⟨rfl, hb8⟩; have k8 := chain2 K1.out hb8 z1))
                    go_ret
                    exact ⟨rfl, k8.1⟩
              · have HREL := hid (show val (List.take (0 + 1) L) = (s + b % 128) by rw [HS.out, show (128 : Int) ^ 0 = 1 by decide]; rw [Int.mul_one])
                have HIN2 := hid (fun q => HLAST.out rfl q)
                cases D
                · go_wp2_with (first | (go_at_call 15; ((with_reducible refine HCALL.out.mono ?_); rintro e w' ⟨rfl, hb1⟩; have k1 := chain2 KA.out hb1 za; have z1 := k1.2; have K1 := hid k1.1; have OA2 := hid (OA1.out.keep hb1); have XA2 := hid (XA1.out.keep hb1); have XF := XA2.out.1; have XG := XA2.out.2.1; clear k1 hb1)))
                  go_roundw
                  case rel => exact ⟨0 + 1, by rw [HREL.out], by go_num, by omega, HIN2, OA2, XA2, z1, K1⟩
                  case measure => simp [intOf]; omega
                · go_wp2_with (first | (go_at_call 15; ((with_reducible refine HCALL.out.mono ?_); rintro e w' ⟨rfl, hb1⟩; have k1 := chain2 KA.out hb1 za; have z1 := k1.2; have K1 := hid k1.1; have OA2 := hid (OA1.out.keep hb1); have XA2 := hid (XA1.out.keep hb1); have XF := XA2.out.1; have XG := XA2.out.2.1; clear k1 hb1)))
                  go_roundw
                  case rel => exact ⟨0 + 1, by rw [HREL.out], by go_num, by omega, HIN2, OA2, XA2, z1, K1⟩
                  case measure => simp [intOf]; omega
          · have HRa := HR.out 14
            rw [HS.out] at HRa
            simp at s1
            by_cases b8 : b < 128
            · have HR1 := hid (fun q : b < 128 => (show Round v lo hi L 1 (s + b % 128 * 128) 14 0 from by have := HRa 0 rfl (by simp [q]); simpa using this))
              clear HRa HR
              have R := hid (HR1.out b8)
              obtain ⟨F, hF⟩ : ∃ F, fitD (s + b % 128 * 128) 14 0 lo hi = F := ⟨_, rfl⟩
              have HCALL := hid (show Calls Tryd.prog 15 #[.slice (some ⟨wr.heap.size, 0, none⟩) 1 1, .int .u64 (s + b % 128 * 128), .int .i64 14, .int .i64 0, .int .i64 32] (wr.alloc (.cells #[.int .u64 lo, .int .u64 hi] 27)) (fun e w' => e = .returned (.bool F) ∧ Below (wr.alloc (.cells #[.int .u64 lo, .int .u64 hi] 27)).heap.size (wr.alloc (.cells #[.int .u64 lo, .int .u64 hi] 27)) w') from by rw [← hF]; exact fits_any _ 1 [(lo, hi)] (s + b % 128 * 128) 14 0 32 _ (by simp) (by simp) (hid (xr wr lo hi l0 (by omega) hh0 (by omega))) R.out.s0 R.out.s1 (by decide) (by decide) (by decide) (by decide) (by decide) (by decide))
              have HFIT := hid R.out.fit
              have HLAST := hid R.out.last
              have HNO := hid R.out.no
              rw [hF] at HFIT HLAST HNO
              have ka := chain2 KR.out ((Below.refl wr.heap.size wr).alloc (Nat.le_refl _) (.cells #[.int .u64 lo, .int .u64 hi] 27)) zr
              have KA := hid ka.1
              have za := ka.2
              have OA1 := hid (OA.out.keep ((Below.refl wr.heap.size wr).alloc (Nat.le_refl _) (.cells #[.int .u64 lo, .int .u64 hi] 27)))
              have XA1 := hid (XB.out.keep ((Below.refl wr.heap.size wr).alloc (Nat.le_refl _) (.cells #[.int .u64 lo, .int .u64 hi] 27)))
              clear ka hF
              cases F
              · have hD : D = false := by rw [HD.out]; simp; exact fun q1 => by have := fun q2 => HFIT.out ⟨q1, q2⟩; simp at this; omega
                subst hD
                have HNO2 := hid (fun x h1 h2 => HNO.out rfl x h1 h2)
                go_wp2_with (first | (go_at_call 15; ((with_reducible refine HCALL.out.mono ?_); rintro e w' ⟨rfl, hb1⟩; have k1 := chain2 KA.out hb1 za; have z1 := k1.2; have K1 := hid k1.1; have OA2 := hid (OA1.out.keep hb1); have XA2 := hid (XA1.out.keep hb1); have XF := XA2.out.1; have XG := XA2.out.2.1; clear k1 hb1)))
                go_loopw [15] (fun v15 wq => ∃ x : Int, v15 = .int .u64 x ∧ lo ≤ x ∧ x ≤ hi + 1 ∧ wq = w') (fun v15 _ => (hi + 1 - intOf v15).toNat)
                case atStart => exact ⟨lo, rfl, by omega, by omega, rfl⟩
                case round =>
                  obtain ⟨x, rfl, x0, x1, rfl⟩ := hrel
                  by_cases hx : x ≤ hi
                  · have hn := HNO2.out x x0 hx
                    have q1 : (x == (s + b % 128 * 128)) = false := by simp; exact hn.1
                    clear hn
                    go_wp2_with fail
                    go_roundw
                    case rel => exact ⟨x + 1, by go_num, by omega, by omega, by trivial⟩
                    case measure => simp [intOf]; omega
                  · go_wp2_with (first | (go_at_call 14; refine (awake_glob _ (HG.out.of K1.out)).mono ?_; rintro e w8 ⟨rfl, hb8⟩; have k8 := chain2 K1.out hb8 z1))
                    go_ret
                    exact ⟨rfl, k8.1⟩
              · have HREL := hid (show val (List.take (1 + 1) L) = (s + b % 128 * 128) by rw [HS.out, show (128 : Int) ^ 1 = 128 by decide])
                have HIN2 := hid (fun q => HLAST.out rfl q)
                cases D
                · go_wp2_with (first | (go_at_call 15; ((with_reducible refine HCALL.out.mono ?_); rintro e w' ⟨rfl, hb1⟩; have k1 := chain2 KA.out hb1 za; have z1 := k1.2; have K1 := hid k1.1; have OA2 := hid (OA1.out.keep hb1); have XA2 := hid (XA1.out.keep hb1); have XF := XA2.out.1; have XG := XA2.out.2.1; clear k1 hb1)))
                  go_roundw
                  case rel => exact ⟨1 + 1, by rw [HREL.out], by go_num, by omega, HIN2, OA2, XA2, z1, K1⟩
                  case measure => simp [intOf]; omega
                · go_wp2_with (first | (go_at_call 15; ((with_reducible refine HCALL.out.mono ?_); rintro e w' ⟨rfl, hb1⟩; have k1 := chain2 KA.out hb1 za; have z1 := k1.2; have K1 := hid k1.1; have OA2 := hid (OA1.out.keep hb1); have XA2 := hid (XA1.out.keep hb1); have XF := XA2.out.1; have XG := XA2.out.2.1; clear k1 hb1)))
                  go_roundw
                  case rel => exact ⟨1 + 1, by rw [HREL.out], by go_num, by omega, HIN2, OA2, XA2, z1, K1⟩
                  case measure => simp [intOf]; omega
            · have HR1 := hid (fun q : ¬ b < 128 => (show Round v lo hi L 1 (s + b % 128 * 128) 14 3 from by have := HRa 3 rfl (by simp [q]); simpa using this))
              clear HRa HR
              have R := hid (HR1.out (by omega))
              obtain ⟨F, hF⟩ : ∃ F, fitD (s + b % 128 * 128) 14 3 lo hi = F := ⟨_, rfl⟩
              have HCALL := hid (show Calls Tryd.prog 15 #[.slice (some ⟨wr.heap.size, 0, none⟩) 1 1, .int .u64 (s + b % 128 * 128), .int .i64 14, .int .i64 3, .int .i64 32] (wr.alloc (.cells #[.int .u64 lo, .int .u64 hi] 27)) (fun e w' => e = .returned (.bool F) ∧ Below (wr.alloc (.cells #[.int .u64 lo, .int .u64 hi] 27)).heap.size (wr.alloc (.cells #[.int .u64 lo, .int .u64 hi] 27)) w') from by rw [← hF]; exact fits_any _ 1 [(lo, hi)] (s + b % 128 * 128) 14 3 32 _ (by simp) (by simp) (hid (xr wr lo hi l0 (by omega) hh0 (by omega))) R.out.s0 R.out.s1 (by decide) (by decide) (by decide) (by decide) (by decide) (by decide))
              have HFIT := hid R.out.fit
              have HLAST := hid R.out.last
              have HNO := hid R.out.no
              rw [hF] at HFIT HLAST HNO
              have ka := chain2 KR.out ((Below.refl wr.heap.size wr).alloc (Nat.le_refl _) (.cells #[.int .u64 lo, .int .u64 hi] 27)) zr
              have KA := hid ka.1
              have za := ka.2
              have OA1 := hid (OA.out.keep ((Below.refl wr.heap.size wr).alloc (Nat.le_refl _) (.cells #[.int .u64 lo, .int .u64 hi] 27)))
              have XA1 := hid (XB.out.keep ((Below.refl wr.heap.size wr).alloc (Nat.le_refl _) (.cells #[.int .u64 lo, .int .u64 hi] 27)))
              clear ka hF
              cases F
              · have hD : D = false := by rw [HD.out]; simp; exact fun q1 => by have := fun q2 => HFIT.out ⟨q1, q2⟩; simp at this; omega
                subst hD
                have HNO2 := hid (fun x h1 h2 => HNO.out rfl x h1 h2)
                go_wp2_with (first | (go_at_call 15; ((with_reducible refine HCALL.out.mono ?_); rintro e w' ⟨rfl, hb1⟩; have k1 := chain2 KA.out hb1 za; have z1 := k1.2; have K1 := hid k1.1; have OA2 := hid (OA1.out.keep hb1); have XA2 := hid (XA1.out.keep hb1); have XF := XA2.out.1; have XG := XA2.out.2.1; clear k1 hb1)))
                go_loopw [15] (fun v15 wq => ∃ x : Int, v15 = .int .u64 x ∧ lo ≤ x ∧ x ≤ hi + 1 ∧ wq = w') (fun v15 _ => (hi + 1 - intOf v15).toNat)
                case atStart => exact ⟨lo, rfl, by omega, by omega, rfl⟩
                case round =>
                  obtain ⟨x, rfl, x0, x1, rfl⟩ := hrel
                  by_cases hx : x ≤ hi
                  · have hn := HNO2.out x x0 hx
                    have q1 : (x == (s + b % 128 * 128)) = false := by simp; exact hn.1
                    have q2 : (x % 16384 == (s + b % 128 * 128)) = false := by have := hn.2 (by decide); simpa using this
                    clear hn
                    go_wp2_with fail
                    go_roundw
                    case rel => exact ⟨x + 1, by go_num, by omega, by omega, by trivial⟩
                    case measure => simp [intOf]; omega
                  · go_wp2_with (first | (go_at_call 14; refine (awake_glob _ (HG.out.of K1.out)).mono ?_; rintro e w8 ⟨rfl, hb8⟩; have k8 := chain2 K1.out hb8 z1))
                    go_ret
                    exact ⟨rfl, k8.1⟩
              · have HREL := hid (show val (List.take (1 + 1) L) = (s + b % 128 * 128) by rw [HS.out, show (128 : Int) ^ 1 = 128 by decide])
                have HIN2 := hid (fun q => HLAST.out rfl q)
                cases D
                · go_wp2_with (first | (go_at_call 15; ((with_reducible refine HCALL.out.mono ?_); rintro e w' ⟨rfl, hb1⟩; have k1 := chain2 KA.out hb1 za; have z1 := k1.2; have K1 := hid k1.1; have OA2 := hid (OA1.out.keep hb1); have XA2 := hid (XA1.out.keep hb1); have XF := XA2.out.1; have XG := XA2.out.2.1; clear k1 hb1)))
                  go_roundw
                  case rel => exact ⟨1 + 1, by rw [HREL.out], by go_num, by omega, HIN2, OA2, XA2, z1, K1⟩
                  case measure => simp [intOf]; omega
                · go_wp2_with (first | (go_at_call 15; ((with_reducible refine HCALL.out.mono ?_); rintro e w' ⟨rfl, hb1⟩; have k1 := chain2 KA.out hb1 za; have z1 := k1.2; have K1 := hid k1.1; have OA2 := hid (OA1.out.keep hb1); have XA2 := hid (XA1.out.keep hb1); have XF := XA2.out.1; have XG := XA2.out.2.1; clear k1 hb1)))
                  go_roundw
                  case rel => exact ⟨1 + 1, by rw [HREL.out], by go_num, by omega, HIN2, OA2, XA2, z1, K1⟩
                  case measure => simp [intOf]; omega
          · have HRa := HR.out 21
            rw [HS.out] at HRa
            simp at s1
            by_cases b8 : b < 128
            · have HR1 := hid (fun q : b < 128 => (show Round v lo hi L 2 (s + b % 128 * 16384) 21 0 from by have := HRa 0 rfl (by simp [q]); simpa using this))
              clear HRa HR
              have R := hid (HR1.out b8)
              obtain ⟨F, hF⟩ : ∃ F, fitD (s + b % 128 * 16384) 21 0 lo hi = F := ⟨_, rfl⟩
              have HCALL := hid (show Calls Tryd.prog 15 #[.slice (some ⟨wr.heap.size, 0, none⟩) 1 1, .int .u64 (s + b % 128 * 16384), .int .i64 21, .int .i64 0, .int .i64 32] (wr.alloc (.cells #[.int .u64 lo, .int .u64 hi] 27)) (fun e w' => e = .returned (.bool F) ∧ Below (wr.alloc (.cells #[.int .u64 lo, .int .u64 hi] 27)).heap.size (wr.alloc (.cells #[.int .u64 lo, .int .u64 hi] 27)) w') from by rw [← hF]; exact fits_any _ 1 [(lo, hi)] (s + b % 128 * 16384) 21 0 32 _ (by simp) (by simp) (hid (xr wr lo hi l0 (by omega) hh0 (by omega))) R.out.s0 R.out.s1 (by decide) (by decide) (by decide) (by decide) (by decide) (by decide))
              have HFIT := hid R.out.fit
              have HLAST := hid R.out.last
              have HNO := hid R.out.no
              rw [hF] at HFIT HLAST HNO
              have ka := chain2 KR.out ((Below.refl wr.heap.size wr).alloc (Nat.le_refl _) (.cells #[.int .u64 lo, .int .u64 hi] 27)) zr
              have KA := hid ka.1
              have za := ka.2
              have OA1 := hid (OA.out.keep ((Below.refl wr.heap.size wr).alloc (Nat.le_refl _) (.cells #[.int .u64 lo, .int .u64 hi] 27)))
              have XA1 := hid (XB.out.keep ((Below.refl wr.heap.size wr).alloc (Nat.le_refl _) (.cells #[.int .u64 lo, .int .u64 hi] 27)))
              clear ka hF
              cases F
              · have hD : D = false := by rw [HD.out]; simp; exact fun q1 => by have := fun q2 => HFIT.out ⟨q1, q2⟩; simp at this; omega
                subst hD
                have HNO2 := hid (fun x h1 h2 => HNO.out rfl x h1 h2)
                go_wp2_with (first | (go_at_call 15; ((with_reducible refine HCALL.out.mono ?_); rintro e w' ⟨rfl, hb1⟩; have k1 := chain2 KA.out hb1 za; have z1 := k1.2; have K1 := hid k1.1; have OA2 := hid (OA1.out.keep hb1); have XA2 := hid (XA1.out.keep hb1); have XF := XA2.out.1; have XG := XA2.out.2.1; clear k1 hb1)))
                go_loopw [15] (fun v15 wq => ∃ x : Int, v15 = .int .u64 x ∧ lo ≤ x ∧ x ≤ hi + 1 ∧ wq = w') (fun v15 _ => (hi + 1 - intOf v15).toNat)
                case atStart => exact ⟨lo, rfl, by omega, by omega, rfl⟩
                case round =>
                  obtain ⟨x, rfl, x0, x1, rfl⟩ := hrel
                  by_cases hx : x ≤ hi
                  · have hn := HNO2.out x x0 hx
                    have q1 : (x == (s + b % 128 * 16384)) = false := by simp; exact hn.1
                    clear hn
                    go_wp2_with fail
                    go_roundw
                    case rel => exact ⟨x + 1, by go_num, by omega, by omega, by trivial⟩
                    case measure => simp [intOf]; omega
                  · go_wp2_with (first | (go_at_call 14; refine (awake_glob _ (HG.out.of K1.out)).mono ?_; rintro e w8 ⟨rfl, hb8⟩; have k8 := chain2 K1.out hb8 z1))
                    go_ret
                    exact ⟨rfl, k8.1⟩
              · have HREL := hid (show val (List.take (2 + 1) L) = (s + b % 128 * 16384) by rw [HS.out, show (128 : Int) ^ 2 = 16384 by decide])
                have HIN2 := hid (fun q => HLAST.out rfl q)
                cases D
                · go_wp2_with (first | (go_at_call 15; ((with_reducible refine HCALL.out.mono ?_); rintro e w' ⟨rfl, hb1⟩; have k1 := chain2 KA.out hb1 za; have z1 := k1.2; have K1 := hid k1.1; have OA2 := hid (OA1.out.keep hb1); have XA2 := hid (XA1.out.keep hb1); have XF := XA2.out.1; have XG := XA2.out.2.1; clear k1 hb1)))
                  go_roundw
                  case rel => exact ⟨2 + 1, by rw [HREL.out], by go_num, by omega, HIN2, OA2, XA2, z1, K1⟩
                  case measure => simp [intOf]; omega
                · go_wp2_with (first | (go_at_call 15; ((with_reducible refine HCALL.out.mono ?_); rintro e w' ⟨rfl, hb1⟩; have k1 := chain2 KA.out hb1 za; have z1 := k1.2; have K1 := hid k1.1; have OA2 := hid (OA1.out.keep hb1); have XA2 := hid (XA1.out.keep hb1); have XF := XA2.out.1; have XG := XA2.out.2.1; clear k1 hb1)))
                  go_roundw
                  case rel => exact ⟨2 + 1, by rw [HREL.out], by go_num, by omega, HIN2, OA2, XA2, z1, K1⟩
                  case measure => simp [intOf]; omega
            · have HR1 := hid (fun q : ¬ b < 128 => (show Round v lo hi L 2 (s + b % 128 * 16384) 21 2 from by have := HRa 2 rfl (by simp [q]); simpa using this))
              clear HRa HR
              have R := hid (HR1.out (by omega))
              obtain ⟨F, hF⟩ : ∃ F, fitD (s + b % 128 * 16384) 21 2 lo hi = F := ⟨_, rfl⟩
              have HCALL := hid (show Calls Tryd.prog 15 #[.slice (some ⟨wr.heap.size, 0, none⟩) 1 1, .int .u64 (s + b % 128 * 16384), .int .i64 21, .int .i64 2, .int .i64 32] (wr.alloc (.cells #[.int .u64 lo, .int .u64 hi] 27)) (fun e w' => e = .returned (.bool F) ∧ Below (wr.alloc (.cells #[.int .u64 lo, .int .u64 hi] 27)).heap.size (wr.alloc (.cells #[.int .u64 lo, .int .u64 hi] 27)) w') from by rw [← hF]; exact fits_any _ 1 [(lo, hi)] (s + b % 128 * 16384) 21 2 32 _ (by simp) (by simp) (hid (xr wr lo hi l0 (by omega) hh0 (by omega))) R.out.s0 R.out.s1 (by decide) (by decide) (by decide) (by decide) (by decide) (by decide))
              have HFIT := hid R.out.fit
              have HLAST := hid R.out.last
              have HNO := hid R.out.no
              rw [hF] at HFIT HLAST HNO
              have ka := chain2 KR.out ((Below.refl wr.heap.size wr).alloc (Nat.le_refl _) (.cells #[.int .u64 lo, .int .u64 hi] 27)) zr
              have KA := hid ka.1
              have za := ka.2
              have OA1 := hid (OA.out.keep ((Below.refl wr.heap.size wr).alloc (Nat.le_refl _) (.cells #[.int .u64 lo, .int .u64 hi] 27)))
              have XA1 := hid (XB.out.keep ((Below.refl wr.heap.size wr).alloc (Nat.le_refl _) (.cells #[.int .u64 lo, .int .u64 hi] 27)))
              clear ka hF
              cases F
              · have hD : D = false := by rw [HD.out]; simp; exact fun q1 => by have := fun q2 => HFIT.out ⟨q1, q2⟩; simp at this; omega
                subst hD
                have HNO2 := hid (fun x h1 h2 => HNO.out rfl x h1 h2)
                go_wp2_with (first | (go_at_call 15; ((with_reducible refine HCALL.out.mono ?_); rintro e w' ⟨rfl, hb1⟩; have k1 := chain2 KA.out hb1 za; have z1 := k1.2; have K1 := hid k1.1; have OA2 := hid (OA1.out.keep hb1); have XA2 := hid (XA1.out.keep hb1); have XF := XA2.out.1; have XG := XA2.out.2.1; clear k1 hb1)))
                go_loopw [15] (fun v15 wq => ∃ x : Int, v15 = .int .u64 x ∧ lo ≤ x ∧ x ≤ hi + 1 ∧ wq = w') (fun v15 _ => (hi + 1 - intOf v15).toNat)
                case atStart => exact ⟨lo, rfl, by omega, by omega, rfl⟩
                case round =>
                  obtain ⟨x, rfl, x0, x1, rfl⟩ := hrel
                  by_cases hx : x ≤ hi
                  · have hn := HNO2.out x x0 hx
                    have q1 : (x == (s + b % 128 * 16384)) = false := by simp; exact hn.1
                    have q2 : (x % 2097152 == (s + b % 128 * 16384)) = false := by have := hn.2 (by decide); simpa using this
                    clear hn
                    go_wp2_with fail
                    go_roundw
                    case rel => exact ⟨x + 1, by go_num, by omega, by omega, by trivial⟩
                    case measure => simp [intOf]; omega
                  · go_wp2_with (first | (go_at_call 14; refine (awake_glob _ (HG.out.of K1.out)).mono ?_; rintro e w8 ⟨rfl, hb8⟩; have k8 := chain2 K1.out hb8 z1))
                    go_ret
                    exact ⟨rfl, k8.1⟩
              · have HREL := hid (show val (List.take (2 + 1) L) = (s + b % 128 * 16384) by rw [HS.out, show (128 : Int) ^ 2 = 16384 by decide])
                have HIN2 := hid (fun q => HLAST.out rfl q)
                cases D
                · go_wp2_with (first | (go_at_call 15; ((with_reducible refine HCALL.out.mono ?_); rintro e w' ⟨rfl, hb1⟩; have k1 := chain2 KA.out hb1 za; have z1 := k1.2; have K1 := hid k1.1; have OA2 := hid (OA1.out.keep hb1); have XA2 := hid (XA1.out.keep hb1); have XF := XA2.out.1; have XG := XA2.out.2.1; clear k1 hb1)))
                  go_roundw
                  case rel => exact ⟨2 + 1, by rw [HREL.out], by go_num, by omega, HIN2, OA2, XA2, z1, K1⟩
                  case measure => simp [intOf]; omega
                · go_wp2_with (first | (go_at_call 15; ((with_reducible refine HCALL.out.mono ?_); rintro e w' ⟨rfl, hb1⟩; have k1 := chain2 KA.out hb1 za; have z1 := k1.2; have K1 := hid k1.1; have OA2 := hid (OA1.out.keep hb1); have XA2 := hid (XA1.out.keep hb1); have XF := XA2.out.1; have XG := XA2.out.2.1; clear k1 hb1)))
                  go_roundw
                  case rel => exact ⟨2 + 1, by rw [HREL.out], by go_num, by omega, HIN2, OA2, XA2, z1, K1⟩
                  case measure => simp [intOf]; omega
          · have HRa := HR.out 28
            rw [HS.out] at HRa
            simp at s1
            by_cases b8 : b < 128
            · have HR1 := hid (fun q : b < 128 => (show Round v lo hi L 3 (s + b % 128 * 2097152) 28 0 from by have := HRa 0 rfl (by simp [q]); simpa using this))
              clear HRa HR
              have R := hid (HR1.out b8)
              obtain ⟨F, hF⟩ : ∃ F, fitD (s + b % 128 * 2097152) 28 0 lo hi = F := ⟨_, rfl⟩
              have HCALL := hid (show Calls Tryd.prog 15 #[.slice (some ⟨wr.heap.size, 0, none⟩) 1 1, .int .u64 (s + b % 128 * 2097152), .int .i64 28, .int .i64 0, .int .i64 32] (wr.alloc (.cells #[.int .u64 lo, .int .u64 hi] 27)) (fun e w' => e = .returned (.bool F) ∧ Below (wr.alloc (.cells #[.int .u64 lo, .int .u64 hi] 27)).heap.size (wr.alloc (.cells #[.int .u64 lo, .int .u64 hi] 27)) w') from by rw [← hF]; exact fits_any _ 1 [(lo, hi)] (s + b % 128 * 2097152) 28 0 32 _ (by simp) (by simp) (hid (xr wr lo hi l0 (by omega) hh0 (by omega))) R.out.s0 R.out.s1 (by decide) (by decide) (by decide) (by decide) (by decide) (by decide))
              have HFIT := hid R.out.fit
              have HLAST := hid R.out.last
              have HNO := hid R.out.no
              rw [hF] at HFIT HLAST HNO
              have ka := chain2 KR.out ((Below.refl wr.heap.size wr).alloc (Nat.le_refl _) (.cells #[.int .u64 lo, .int .u64 hi] 27)) zr
              have KA := hid ka.1
              have za := ka.2
              have OA1 := hid (OA.out.keep ((Below.refl wr.heap.size wr).alloc (Nat.le_refl _) (.cells #[.int .u64 lo, .int .u64 hi] 27)))
              have XA1 := hid (XB.out.keep ((Below.refl wr.heap.size wr).alloc (Nat.le_refl _) (.cells #[.int .u64 lo, .int .u64 hi] 27)))
              clear ka hF
              cases F
              · have hD : D = false := by rw [HD.out]; simp; exact fun q1 => by have := fun q2 => HFIT.out ⟨q1, q2⟩; simp at this; omega
                subst hD
                have HNO2 := hid (fun x h1 h2 => HNO.out rfl x h1 h2)
                go_wp2_with (first | (go_at_call 15; ((with_reducible refine HCALL.out.mono ?_); rintro e w' ⟨rfl, hb1⟩; have k1 := chain2 KA.out hb1 za; have z1 := k1.2; have K1 := hid k1.1; have OA2 := hid (OA1.out.keep hb1); have XA2 := hid (XA1.out.keep hb1); have XF := XA2.out.1; have XG := XA2.out.2.1; clear k1 hb1)))
                go_loopw [15] (fun v15 wq => ∃ x : Int, v15 = .int .u64 x ∧ lo ≤ x ∧ x ≤ hi + 1 ∧ wq = w') (fun v15 _ => (hi + 1 - intOf v15).toNat)
                case atStart => exact ⟨lo, rfl, by omega, by omega, rfl⟩
                case round =>
                  obtain ⟨x, rfl, x0, x1, rfl⟩ := hrel
                  by_cases hx : x ≤ hi
                  · have hn := HNO2.out x x0 hx
                    have q1 : (x == (s + b % 128 * 2097152)) = false := by simp; exact hn.1
                    clear hn
                    go_wp2_with fail
                    go_roundw
                    case rel => exact ⟨x + 1, by go_num, by omega, by omega, by trivial⟩
                    case measure => simp [intOf]; omega
                  · go_wp2_with (first | (go_at_call 14; refine (awake_glob _ (HG.out.of K1.out)).mono ?_; rintro e w8 ⟨rfl, hb8⟩; have k8 := chain2 K1.out hb8 z1))
                    go_ret
                    exact ⟨rfl, k8.1⟩
              · have HREL := hid (show val (List.take (3 + 1) L) = (s + b % 128 * 2097152) by rw [HS.out, show (128 : Int) ^ 3 = 2097152 by decide])
                have HIN2 := hid (fun q => HLAST.out rfl q)
                cases D
                · go_wp2_with (first | (go_at_call 15; ((with_reducible refine HCALL.out.mono ?_); rintro e w' ⟨rfl, hb1⟩; have k1 := chain2 KA.out hb1 za; have z1 := k1.2; have K1 := hid k1.1; have OA2 := hid (OA1.out.keep hb1); have XA2 := hid (XA1.out.keep hb1); have XF := XA2.out.1; have XG := XA2.out.2.1; clear k1 hb1)))
                  go_roundw
                  case rel => exact ⟨3 + 1, by rw [HREL.out], by go_num, by omega, HIN2, OA2, XA2, z1, K1⟩
                  case measure => simp [intOf]; omega
                · go_wp2_with (first | (go_at_call 15; ((with_reducible refine HCALL.out.mono ?_); rintro e w' ⟨rfl, hb1⟩; have k1 := chain2 KA.out hb1 za; have z1 := k1.2; have K1 := hid k1.1; have OA2 := hid (OA1.out.keep hb1); have XA2 := hid (XA1.out.keep hb1); have XF := XA2.out.1; have XG := XA2.out.2.1; clear k1 hb1)))
                  go_roundw
                  case rel => exact ⟨3 + 1, by rw [HREL.out], by go_num, by omega, HIN2, OA2, XA2, z1, K1⟩
                  case measure => simp [intOf]; omega
            · have HR1 := hid (fun q : ¬ b < 128 => (show Round v lo hi L 3 (s + b % 128 * 2097152) 28 1 from by have := HRa 1 rfl (by simp [q]); simpa using this))
              clear HRa HR
              have R := hid (HR1.out (by omega))
              obtain ⟨F, hF⟩ : ∃ F, fitD (s + b % 128 * 2097152) 28 1 lo hi = F := ⟨_, rfl⟩
              have HCALL := hid (show Calls Tryd.prog 15 #[.slice (some ⟨wr.heap.size, 0, none⟩) 1 1, .int .u64 (s + b % 128 * 2097152), .int .i64 28, .int .i64 1, .int .i64 32] (wr.alloc (.cells #[.int .u64 lo, .int .u64 hi] 27)) (fun e w' => e = .returned (.bool F) ∧ Below (wr.alloc (.cells #[.int .u64 lo, .int .u64 hi] 27)).heap.size (wr.alloc (.cells #[.int .u64 lo, .int .u64 hi] 27)) w') from by rw [← hF]; exact fits_any _ 1 [(lo, hi)] (s + b % 128 * 2097152) 28 1 32 _ (by simp) (by simp) (hid (xr wr lo hi l0 (by omega) hh0 (by omega))) R.out.s0 R.out.s1 (by decide) (by decide) (by decide) (by decide) (by decide) (by decide))
              have HFIT := hid R.out.fit
              have HLAST := hid R.out.last
              have HNO := hid R.out.no
              rw [hF] at HFIT HLAST HNO
              have ka := chain2 KR.out ((Below.refl wr.heap.size wr).alloc (Nat.le_refl _) (.cells #[.int .u64 lo, .int .u64 hi] 27)) zr
              have KA := hid ka.1
              have za := ka.2
              have OA1 := hid (OA.out.keep ((Below.refl wr.heap.size wr).alloc (Nat.le_refl _) (.cells #[.int .u64 lo, .int .u64 hi] 27)))
              have XA1 := hid (XB.out.keep ((Below.refl wr.heap.size wr).alloc (Nat.le_refl _) (.cells #[.int .u64 lo, .int .u64 hi] 27)))
              clear ka hF
              cases F
              · have hD : D = false := by rw [HD.out]; simp; exact fun q1 => by have := fun q2 => HFIT.out ⟨q1, q2⟩; simp at this; omega
                subst hD
                have HNO2 := hid (fun x h1 h2 => HNO.out rfl x h1 h2)
                go_wp2_with (first | (go_at_call 15; ((with_reducible refine HCALL.out.mono ?_); rintro e w' ⟨rfl, hb1⟩; have k1 := chain2 KA.out hb1 za; have z1 := k1.2; have K1 := hid k1.1; have OA2 := hid (OA1.out.keep hb1); have XA2 := hid (XA1.out.keep hb1); have XF := XA2.out.1; have XG := XA2.out.2.1; clear k1 hb1)))
                go_loopw [15] (fun v15 wq => ∃ x : Int, v15 = .int .u64 x ∧ lo ≤ x ∧ x ≤ hi + 1 ∧ wq = w') (fun v15 _ => (hi + 1 - intOf v15).toNat)
                case atStart => exact ⟨lo, rfl, by omega, by omega, rfl⟩
                case round =>
                  obtain ⟨x, rfl, x0, x1, rfl⟩ := hrel
                  by_cases hx : x ≤ hi
                  · have hn := HNO2.out x x0 hx
                    have q1 : (x == (s + b % 128 * 2097152)) = false := by simp; exact hn.1
                    have q2 : (x % 268435456 == (s + b % 128 * 2097152)) = false := by have := hn.2 (by decide); simpa using this
                    clear hn
                    go_wp2_with fail
                    go_roundw
                    case rel => exact ⟨x + 1, by go_num, by omega, by omega, by trivial⟩
                    case measure => simp [intOf]; omega
                  · go_wp2_with (first | (go_at_call 14; refine (awake_glob _ (HG.out.of K1.out)).mono ?_; rintro e w8 ⟨rfl, hb8⟩; have k8 := chain2 K1.out hb8 z1))
                    go_ret
                    exact ⟨rfl, k8.1⟩
              · have HREL := hid (show val (List.take (3 + 1) L) = (s + b % 128 * 2097152) by rw [HS.out, show (128 : Int) ^ 3 = 2097152 by decide])
                have HIN2 := hid (fun q => HLAST.out rfl q)
                cases D
                · go_wp2_with (first | (go_at_call 15; ((with_reducible refine HCALL.out.mono ?_); rintro e w' ⟨rfl, hb1⟩; have k1 := chain2 KA.out hb1 za; have z1 := k1.2; have K1 := hid k1.1; have OA2 := hid (OA1.out.keep hb1); have XA2 := hid (XA1.out.keep hb1); have XF := XA2.out.1; have XG := XA2.out.2.1; clear k1 hb1)))
                  go_roundw
                  case rel => exact ⟨3 + 1, by rw [HREL.out], by go_num, by omega, HIN2, OA2, XA2, z1, K1⟩
                  case measure => simp [intOf]; omega
                · go_wp2_with (first | (go_at_call 15; ((with_reducible refine HCALL.out.mono ?_); rintro e w' ⟨rfl, hb1⟩; have k1 := chain2 KA.out hb1 za; have z1 := k1.2; have K1 := hid k1.1; have OA2 := hid (OA1.out.keep hb1); have XA2 := hid (XA1.out.keep hb1); have XF := XA2.out.1; have XG := XA2.out.2.1; clear k1 hb1)))
                  go_roundw
                  case rel => exact ⟨3 + 1, by rw [HREL.out], by go_num, by omega, HIN2, OA2, XA2, z1, K1⟩
                  case measure => simp [intOf]; omega
          · have HRa := HR.out 32
            rw [HS.out] at HRa
            simp at s1
            by_cases b8 : b < 128
            · have HR1 := hid (fun q : b < 128 => (show Round v lo hi L 4 (s + b % 128 * 268435456) 32 0 from by have := HRa 0 rfl (by simp [q]); simpa using this))
              clear HRa HR
              have R := hid (HR1.out b8)
              obtain ⟨F, hF⟩ : ∃ F, fitD (s + b % 128 * 268435456) 32 0 lo hi = F := ⟨_, rfl⟩
              have HCALL := hid (show Calls Tryd.prog 15 #[.slice (some ⟨wr.heap.size, 0, none⟩) 1 1, .int .u64 (s + b % 128 * 268435456), .int .i64 32, .int .i64 0, .int .i64 32] (wr.alloc (.cells #[.int .u64 lo, .int .u64 hi] 27)) (fun e w' => e = .returned (.bool F) ∧ Below (wr.alloc (.cells #[.int .u64 lo, .int .u64 hi] 27)).heap.size (wr.alloc (.cells #[.int .u64 lo, .int .u64 hi] 27)) w') from by rw [← hF]; exact fits_any _ 1 [(lo, hi)] (s + b % 128 * 268435456) 32 0 32 _ (by simp) (by simp) (hid (xr wr lo hi l0 (by omega) hh0 (by omega))) R.out.s0 R.out.s1 (by decide) (by decide) (by decide) (by decide) (by decide) (by decide))
              have HFIT := hid R.out.fit
              have HLAST := hid R.out.last
              have HNO := hid R.out.no
              rw [hF] at HFIT HLAST HNO
              have ka := chain2 KR.out ((Below.refl wr.heap.size wr).alloc (Nat.le_refl _) (.cells #[.int .u64 lo, .int .u64 hi] 27)) zr
              have KA := hid ka.1
              have za := ka.2
              have OA1 := hid (OA.out.keep ((Below.refl wr.heap.size wr).alloc (Nat.le_refl _) (.cells #[.int .u64 lo, .int .u64 hi] 27)))
              have XA1 := hid (XB.out.keep ((Below.refl wr.heap.size wr).alloc (Nat.le_refl _) (.cells #[.int .u64 lo, .int .u64 hi] 27)))
              clear ka hF
              cases F
              · have hD : D = false := by rw [HD.out]; simp; exact fun q1 => by have := fun q2 => HFIT.out ⟨q1, q2⟩; simp at this; omega
                subst hD
                have HNO2 := hid (fun x h1 h2 => HNO.out rfl x h1 h2)
                go_wp2_with (first | (go_at_call 15; ((with_reducible refine HCALL.out.mono ?_); rintro e w' ⟨rfl, hb1⟩; have k1 := chain2 KA.out hb1 za; have z1 := k1.2; have K1 := hid k1.1; have OA2 := hid (OA1.out.keep hb1); have XA2 := hid (XA1.out.keep hb1); have XF := XA2.out.1; have XG := XA2.out.2.1; clear k1 hb1)))
                go_loopw [15] (fun v15 wq => ∃ x : Int, v15 = .int .u64 x ∧ lo ≤ x ∧ x ≤ hi + 1 ∧ wq = w') (fun v15 _ => (hi + 1 - intOf v15).toNat)
                case atStart => exact ⟨lo, rfl, by omega, by omega, rfl⟩
                case round =>
                  obtain ⟨x, rfl, x0, x1, rfl⟩ := hrel
                  by_cases hx : x ≤ hi
                  · have hn := HNO2.out x x0 hx
                    have q1 : (x == (s + b % 128 * 268435456)) = false := by simp; exact hn.1
                    clear hn
                    go_wp2_with fail
                    go_roundw
                    case rel => exact ⟨x + 1, by go_num, by omega, by omega, by trivial⟩
                    case measure => simp [intOf]; omega
                  · go_wp2_with (first | (go_at_call 14; refine (awake_glob _ (HG.out.of K1.out)).mono ?_; rintro e w8 ⟨rfl, hb8⟩; have k8 := chain2 K1.out hb8 z1))
                    go_ret
                    exact ⟨rfl, k8.1⟩
              · have HREL := hid (show val (List.take (4 + 1) L) = (s + b % 128 * 268435456) by rw [HS.out, show (128 : Int) ^ 4 = 268435456 by decide])
                have HIN2 := hid (fun q => HLAST.out rfl q)
                cases D
                · go_wp2_with (first | (go_at_call 15; ((with_reducible refine HCALL.out.mono ?_); rintro e w' ⟨rfl, hb1⟩; have k1 := chain2 KA.out hb1 za; have z1 := k1.2; have K1 := hid k1.1; have OA2 := hid (OA1.out.keep hb1); have XA2 := hid (XA1.out.keep hb1); have XF := XA2.out.1; have XG := XA2.out.2.1; clear k1 hb1)))
                  go_roundw
                  case rel => exact ⟨4 + 1, by rw [HREL.out], by go_num, by omega, HIN2, OA2, XA2, z1, K1⟩
                  case measure => simp [intOf]; omega
                · go_wp2_with (first | (go_at_call 15; ((with_reducible refine HCALL.out.mono ?_); rintro e w' ⟨rfl, hb1⟩; have k1 := chain2 KA.out hb1 za; have z1 := k1.2; have K1 := hid k1.1; have OA2 := hid (OA1.out.keep hb1); have XA2 := hid (XA1.out.keep hb1); have XF := XA2.out.1; have XG := XA2.out.2.1; clear k1 hb1)))
                  go_roundw
                  case rel => exact ⟨4 + 1, by rw [HREL.out], by go_num, by omega, HIN2, OA2, XA2, z1, K1⟩
                  case measure => simp [intOf]; omega
            · exact absurd (hlast.out.2 (by omega)) b8
          -- END ROUNDS
        · have hin := HIN.out (by omega)
          have hDt : D = true := by rw [HD.out]; simpa using hin
          subst hDt
          have hm : decide ((uL v).length ≤ L.length) = true := by have := DL.out.least; simpa using this
          clear hin
          obtain ⟨wq, rfl⟩ : ∃ wq : World, wq = wr := ⟨_, rfl⟩
          go_wp2_with (first
            | (go_at_call 18; ((with_reducible refine (lebSizeU _ v v0 (by omega)).mono ?_); rintro e w' ⟨rfl, hb1⟩; have k1 := chain2 KR.out hb1 zr; have z1 := k1.2; have K1 := hid k1.1; clear k1 hb1))
            | (go_at_call 14; refine (awake_glob _ (HG.out.of K1.out)).mono ?_; rintro e w8 ⟨rfl, hb8⟩; have k8 := chain2 K1.out hb8 z1))
          go_ret
          exact ⟨rfl, k8.1⟩

end Go.Proofs.YtlpocahflolmpaaDoor
