/- The statement LebBack: its walk. -/
import Derived.Test.YtlpocahflolmpaaK0
namespace Go.Proofs.Ytlpocahflolmpaa
set_option linter.unusedVariables false
set_option linter.unusedSimpArgs false
open Go.RowKit

set_option maxRecDepth 100000 in
set_option maxHeartbeats 8000000 in
theorem back_walk (v n b : Int) (w : World) (h0 : 0 ≤ v) (h1 : v ≤ 18446744073709551615) (n0 : 0 ≤ n) (n1 : n ≤ 255) (b0 : 0 ≤ b) (b1 : b ≤ 255) :
    Calls Try.prog 6 #[.int .u64 v, .int .u8 n, .int .u8 b] w (fun e w' => e = .returned (.bool true) ∧ Below w.heap.size w w') := by
  obtain ⟨i0, hi0, hz0, hz1, hz2⟩ := info_parts info5
  obtain ⟨U, hU⟩ : ∃ U, rU v (n % 10) = U := ⟨_, rfl⟩
  obtain ⟨S, hS⟩ : ∃ S, rS (wrap64 v) (n % 10) = S := ⟨_, rfl⟩
  obtain ⟨U0, hU0⟩ : ∃ U, rU v 0 = U := ⟨_, rfl⟩
  obtain ⟨S0, hS0⟩ : ∃ S, rS (wrap64 v) 0 = S := ⟨_, rfl⟩
  have x0 : -9223372036854775808 ≤ wrap64 v := by unfold wrap64; omega
  have x1 : wrap64 v ≤ 9223372036854775807 := by unfold wrap64; omega
  have OKU := hid (show UOk v U by rw [← hU]; exact rU_ok h0 (by omega))
  have OKS := hid (show SOk (wrap64 v) S by rw [← hS]; exact rS_ok (by omega))
  have OKU0 := hid (show UOk v U0 by rw [← hU0]; exact rU_ok h0 (by omega))
  have OKS0 := hid (show SOk (wrap64 v) S0 by rw [← hS0]; exact rS_ok (by omega))
  have lU0 : U0.length ≤ 10 := by rw [← hU0, rU_zero v h0]; exact uL_len10 h0 h1
  have lS0 : S0.length ≤ 10 := by rw [← hS0, rS_zero]; exact sL_len10 x0 x1
  have HU := hid hU
  have HS := hid hS
  have HU0 := hid hU0
  have HS0 := hid hS0
  clear hU hS hU0 hS0
  go_enter Try.func6, Try.ntmps6
  go_upto_region 2 with (fail)
  go_upto_if 36 with (first
    | (go_at_call 9; ((with_reducible refine (putU_nil h0 h1 (by omega) (by omega) HU.out w.heap.size (Nat.le_refl _)).mono ?_); rintro e w' ⟨g, cap, rfl, hown, hb1⟩; have k1 := chain (Below.refl _ _) hb1 (Nat.le_refl _); have zz1 := k1.2; have K1 := hid k1.1; have OU := hid hown; clear k1 hb1 hown))
    | (go_at_call 10; ((with_reducible refine (putS_nil x0 x1 (by omega) (by omega) HS.out w.heap.size zz1).mono ?_); rintro e w' ⟨g2, cap2, rfl, hown, hb1⟩; have k1 := chain K1.out hb1 zz1; have zz2 := k1.2; have K2 := hid k1.1; have OS := hid hown; have OU2 := hid (OU.out.keep hb1); clear k1 hb1 hown)))
  obtain ⟨w2, rfl⟩ : ∃ w2 : World, w2 = w' := ⟨_, rfl⟩
  go_cut [8] (fun s8 wx => ∃ gu cu L, s8 = .slice (some ⟨gu, 0, none⟩) (List.length L) cu ∧ Hid (UOk v L) ∧ L.length ≤ 10 ∧ Hid (OwnAt wx w.heap.size gu cu L) ∧ Hid (OwnAt wx w.heap.size g2 cap2 S) ∧ w.heap.size ≤ wx.heap.size ∧ Hid (Below w.heap.size w wx))
  case first =>
    by_cases hl : U.length ≤ 10
    · go_wp2
      go_meet
      exact ⟨_, _, _, rfl, OKU, hl, OU2, OS, zz2, K2⟩
    · go_wp2_with (first
        | (go_at_call 9; ((with_reducible refine (putU_nil h0 h1 (by omega) (by omega) HU0.out w.heap.size zz2).mono ?_); rintro e w' ⟨g3, cap3, rfl, hown, hb1⟩; have k1 := chain K2.out hb1 zz2; have zz3 := k1.2; have K3 := hid k1.1; have OU3 := hid hown; have OS3 := hid (OS.out.keep hb1); clear k1 hb1 hown)))
      go_meet
      exact ⟨_, _, _, rfl, OKU0, lU0, OU3, OS3, zz3, K3⟩
  case rest =>
    obtain ⟨gu, cu, L, rfl, OKL, lL, OL, OS4, zz4, K4⟩ := hcut
    obtain ⟨w4, rfl⟩ : ∃ w4 : World, w4 = wc := ⟨_, rfl⟩
    clear K1 K2 OU OU2 OS OKU OKU0 HU HU0 lU0
    go_upto_if 41 with (fail)
    go_cut [9] (fun s9 wx => ∃ gs cs M, s9 = .slice (some ⟨gs, 0, none⟩) (List.length M) cs ∧ Hid (SOk (wrap64 v) M) ∧ M.length ≤ 10 ∧ Hid (OwnAt wx w.heap.size gs cs M) ∧ Hid (OwnAt wx w.heap.size gu cu L) ∧ w.heap.size ≤ wx.heap.size ∧ Hid (Below w.heap.size w wx))
    case first =>
      by_cases hl : S.length ≤ 10
      · go_wp2
        go_meet
        exact ⟨_, _, _, rfl, OKS, hl, OS4, OL, zz4, K4⟩
      · go_wp2_with (first
          | (go_at_call 10; ((with_reducible refine (putS_nil x0 x1 (by omega) (by omega) HS0.out w.heap.size zz4).mono ?_); rintro e w' ⟨g3, cap3, rfl, hown, hb1⟩; have k1 := chain K4.out hb1 zz4; have zz5 := k1.2; have K5 := hid k1.1; have OS5 := hid hown; have OL5 := hid (OL.out.keep hb1); clear k1 hb1 hown)))
        go_meet
        exact ⟨_, _, _, rfl, OKS0, lS0, OS5, OL5, zz5, K5⟩
    case rest =>
      obtain ⟨gs, cs, M, rfl, OKM, lM, OM, OL2, zz6, K6⟩ := hcut
      obtain ⟨w6, rfl⟩ : ∃ w6 : World, w6 = wc := ⟨_, rfl⟩
      clear OL OS4 K4 OKS OKS0 HS HS0 lS0
      have pL : 1 ≤ L.length := by obtain ⟨D, x, hd⟩ := OKL.out.dig; exact dig_pos hd
      have pM : 1 ≤ M.length := by obtain ⟨D, x, hd⟩ := OKM.out.dig; exact dig_pos hd
      go_upto_region 8 with (first
        | (at_builtin; refine wpList_append_src rfl (.tmp 46) (.tmp 47) 22 rfl w6.heap.size 5 i0 (.int .u8 0) Try.underlying22 hi0 hz0 hz1 hz2 rfl _ 0 [] rfl (lit_empty _ _ (Nat.le_refl _)) w6.heap.size _ _ L rfl (Src.keep (OwnAt.src OL2.out) (fun p hp => World.cell?_of_block (Below.heap_alloc _ _ _ hp))) (by omega) (by simp <;> omega) ?_; intro va wa howna hgrowa; obtain ⟨ka1, ka2, ka3⟩ := Own.first (Below.refl w6.heap.size w6) (Nat.le_refl _) (lit_block (Nat.le_refl _) _ _) howna (by omega) hgrowa; have KA1 := hid ka1; have KA2 := hid ka2; clear ka1 ka2 howna hgrowa; (obtain ⟨ga, ca, rfl, _, _⟩ := Own.form KA1.out (by omega)))
        | (at_builtin; refine wpList_append_own _ rfl (.tmp 48) (.tmp 50) 22 rfl w6.heap.size 5 i0 (.int .u8 0) 1 1 Try.underlying22 hi0 hz0 hz1 hz2 rfl (by decide) _ _ _ rfl (World.ownsRow.alloc KA1.out _) ⟨wa.heap.size, 0, none⟩ 1 1 [.int .u8 b] rfl rfl (one_new _ _ _) (one_cell b) (by unfold maxLen; omega) (by omega) (by simp <;> omega) ?_; intro vc wc1 hownc hgrowc _; obtain ⟨kc1, kc2, kc3⟩ := Own.step KA2.out ka3 KA1.out hownc rfl hgrowc; have KC1 := hid kc1; have KC2 := hid kc2; clear kc1 kc2 hownc hgrowc; (obtain ⟨gc, cc, rfl, _, _⟩ := Own.form KC1.out (by simp)))
        | (go_at_call 16; (have KD := hid (show OwnAt wc1 _ gc cc (L ++ [b]) from KC1.out)); ((with_reducible refine (lebU_at (UOk.take OKL.out h0 h1 lL [b]) (OwnAt.all KD.out (app_bytes OKL.out.bytes b0 b1)) (by simp) (by omega)).mono ?_); rintro e w' ⟨rfl, hb1⟩; have k1 := chain KC2.out hb1 kc3; have zz7 := k1.2; have K7 := hid k1.1; clear k1 hb1)))
      have OM8 := hid (OM.out.keep K7.out)
      have OL8 := hid (OL2.out.keep K7.out)
      have k8 := chain K6.out K7.out zz6
      have zz8 := k8.2
      have K8 := hid k8.1
      obtain ⟨w8, rfl⟩ : ∃ w8 : World, w8 = w' := ⟨_, rfl⟩
      clear KA1 KA2 KC1 KC2 K7 ka3 kc3 k8 OM OL2
      go_upto_region 9 with (first
        | (at_builtin; refine wpList_append_src rfl (.tmp 57) (.tmp 58) 22 rfl w8.heap.size 5 i0 (.int .u8 0) Try.underlying22 hi0 hz0 hz1 hz2 rfl _ 0 [] rfl (lit_empty _ _ (Nat.le_refl _)) w8.heap.size _ _ M rfl (Src.keep (OwnAt.src OM8.out) (fun p hp => World.cell?_of_block (Below.heap_alloc _ _ _ hp))) (by omega) (by simp <;> omega) ?_; intro va wa howna hgrowa; obtain ⟨ka1, ka2, ka3⟩ := Own.first (Below.refl w8.heap.size w8) (Nat.le_refl _) (lit_block (Nat.le_refl _) _ _) howna (by omega) hgrowa; have KA1 := hid ka1; have KA2 := hid ka2; clear ka1 ka2 howna hgrowa; (obtain ⟨ga, ca, rfl, _, _⟩ := Own.form KA1.out (by omega)))
        | (at_builtin; refine wpList_append_own _ rfl (.tmp 59) (.tmp 61) 22 rfl w8.heap.size 5 i0 (.int .u8 0) 1 1 Try.underlying22 hi0 hz0 hz1 hz2 rfl (by decide) _ _ _ rfl (World.ownsRow.alloc KA1.out _) ⟨wa.heap.size, 0, none⟩ 1 1 [.int .u8 b] rfl rfl (one_new _ _ _) (one_cell b) (by unfold maxLen; omega) (by omega) (by simp <;> omega) ?_; intro vc wc1 hownc hgrowc _; obtain ⟨kc1, kc2, kc3⟩ := Own.step KA2.out ka3 KA1.out hownc rfl hgrowc; have KC1 := hid kc1; have KC2 := hid kc2; clear kc1 kc2 hownc hgrowc; (obtain ⟨gc, cc, rfl, _, _⟩ := Own.form KC1.out (by simp)))
        | (go_at_call 19; (have KD := hid (show OwnAt wc1 _ gc cc (M ++ [b]) from KC1.out)); ((with_reducible refine (lebS_at (SOk.take OKM.out x0 x1 lM [b]) (OwnAt.all KD.out (app_bytes OKM.out.bytes b0 b1)) (by simp) (by omega)).mono ?_); rintro e w' ⟨rfl, hb1⟩; have k1 := chain KC2.out hb1 kc3; have zz9 := k1.2; have K9 := hid k1.1; clear k1 hb1)))
      have OM9 := hid (OM8.out.keep K9.out)
      have OL9 := hid (OL8.out.keep K9.out)
      have k9 := chain K8.out K9.out zz8
      have zz10 := k9.2
      have K10 := hid k9.1
      obtain ⟨w9, rfl⟩ : ∃ w9 : World, w9 = w' := ⟨_, rfl⟩
      clear KA1 KA2 KC1 KC2 K9 ka3 kc3 k9 OM8 OL8
      have mL : decide (L.length < (uL v).length) = false := by have := OKL.out.least; simp; omega
      have mM : decide (M.length < (sL (wrap64 v)).length) = false := by have := OKM.out.least; simp; omega
      go_wp2_with (first
        | (go_at_call 13; ((with_reducible refine (lebSizeU _ v h0 h1).mono ?_); rintro e w' ⟨rfl, hb1⟩; have OMA := hid (OM9.out.keep hb1); have OLA := hid (OL9.out.keep hb1); have k1 := chain K10.out hb1 zz10; have zz11 := k1.2; have K11 := hid k1.1; clear k1 hb1))
        | (go_at_call 14; ((with_reducible refine (lebSizeS _ (wrap64 v) x0 x1).mono ?_); rintro e w' ⟨rfl, hb1⟩; have OMB := hid (OMA.out.keep hb1); have OLB := hid (OLA.out.keep hb1); have k1 := chain K11.out hb1 zz11; have zz12 := k1.2; have K12 := hid k1.1; clear k1 hb1)))
      go_loopw [16] (fun s16 wr => ∃ k : Nat, s16 = .int .i64 k ∧ k ≤ List.length L ∧ Hid (OwnAt wr w.heap.size gu cu L) ∧ Hid (OwnAt wr w.heap.size gs cs M) ∧ w.heap.size ≤ wr.heap.size ∧ Hid (Below w.heap.size w wr)) (fun s16 _ => List.length L - (intOf s16).toNat)
      case atStart => exact ⟨0, by go_num, by omega, OLB, OMB, zz12, K12⟩
      case round =>
        obtain ⟨k, rfl, hk, OA, OB, zr, KR⟩ := hrel
        by_cases hlt : k < List.length L
        · have HCA := hid (OA.out.came OKL.out.bytes k)
          have hkc : k ≤ cu := by have := OA.out.cap_le (by omega); omega
          have HTK := hid (show (L.take k).length = k by rw [List.length_take]; omega)
          have HCUT := hid (OKL.out.cut lL hlt)
          go_wp2_with (first
            | (go_at_call 16; ((with_reducible refine (lebU_at HCUT.out HCA.out HTK.out (by omega)).mono ?_); rintro e w' ⟨rfl, hb1⟩; have k1 := chain KR.out hb1 zr; have zr2 := k1.2; have KR2 := hid k1.1; have OA2 := hid (OA.out.keep hb1); have OB2 := hid (OB.out.keep hb1); clear k1 hb1)))
          go_roundw
          case rel => exact ⟨k + 1, by go_num, by omega, OA2, OB2, zr2, KR2⟩
          case measure => simp [intOf]; omega
        · obtain ⟨wq, rfl⟩ : ∃ wq : World, wq = wr := ⟨_, rfl⟩
          go_wp2_with fail
          go_loopw [20] (fun s16 wr => ∃ k : Nat, s16 = .int .i64 k ∧ k ≤ List.length M ∧ Hid (OwnAt wr w.heap.size gs cs M) ∧ Hid (OwnAt wr w.heap.size gu cu L) ∧ w.heap.size ≤ wr.heap.size ∧ Hid (Below w.heap.size w wr)) (fun s16 _ => List.length M - (intOf s16).toNat)
          case atStart => exact ⟨0, by go_num, by omega, OB, OA, zr, KR⟩
          case round =>
            obtain ⟨k, rfl, hk, OA, OB, zr, KR⟩ := hrel
            by_cases hlt : k < List.length M
            · have HCA := hid (OA.out.came OKM.out.bytes k)
              have hkc : k ≤ cs := by have := OA.out.cap_le (by omega); omega
              have HTK := hid (show (M.take k).length = k by rw [List.length_take]; omega)
              have HCUT := hid (OKM.out.cut lM hlt)
              go_wp2_with (first
                | (go_at_call 19; ((with_reducible refine (lebS_at HCUT.out HCA.out HTK.out (by omega)).mono ?_); rintro e w' ⟨rfl, hb1⟩; have k1 := chain KR.out hb1 zr; have zr2 := k1.2; have KR2 := hid k1.1; have OA2 := hid (OA.out.keep hb1); have OB2 := hid (OB.out.keep hb1); clear k1 hb1)))
              go_roundw
              case rel => exact ⟨k + 1, by go_num, by omega, OA2, OB2, zr2, KR2⟩
              case measure => simp [intOf]; omega
            · obtain ⟨wq, rfl⟩ : ∃ wq : World, wq = wr := ⟨_, rfl⟩
              go_wp2_with (first | (go_at_call 15; refine (awake_any _).mono ?_; rintro e w' ⟨rfl, hb8⟩; have k8 := chain KR.out hb8 zr))
              go_ret
              exact ⟨rfl, k8.1⟩

end Go.Proofs.Ytlpocahflolmpaa
