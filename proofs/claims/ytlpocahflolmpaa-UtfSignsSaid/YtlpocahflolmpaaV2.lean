/- The statement UtfSigns: its walk. -/
import Derived.Test.YtlpocahflolmpaaV1
namespace Go.Proofs.Ytlpocahflolmpaa
set_option linter.unusedVariables false
set_option linter.unusedSimpArgs false
open Go.RowKit

/-- numbers of 32 bits that came in -/
def Came32 (w : World) (B : Nat) (A : Option Addr) (l : List Int) : Prop :=
  (∀ x ∈ l, 0 ≤ x ∧ x ≤ 4294967295) ∧ (l ≠ [] → ∃ g o, A = some ⟨g, o, none⟩ ∧ g < B ∧ ∀ i (h : i < l.length), w.cell? ⟨g, o + i, none⟩ = some (.int .u32 l[i]))

set_option maxRecDepth 100000 in
set_option maxHeartbeats 8000000 in
theorem signs_yes (A : Option Addr) (c : Nat) (l : List Int) (w : World) (h : Came32 w w.heap.size A l) (h100 : l.length ≤ 100) :
    Calls Try.prog 8 #[.slice A l.length c] w (fun e w' => e = .returned (.bool true) ∧ Below w.heap.size w w') := by
  have HC := hid h
  clear h
  go_enter Try.func8, Try.ntmps8
  go_wp2
  go_loopw [3, 4] (fun v3 v4 wr => ∃ (i : Nat) (t : ByteArray), v3 = .string t ∧ v4 = .int .i64 i ∧ i ≤ l.length ∧ t.size ≤ 4 * i ∧ Hid (need (ns t) = (0, true)) ∧ w.heap.size ≤ wr.heap.size ∧ Hid (Below w.heap.size w wr)) (fun _ v4 _ => l.length - (intOf v4).toNat)
  case atStart => exact ⟨0, ByteArray.empty, rfl, by go_num, by omega, by decide, hid (by decide +kernel), Nat.le_refl _, Below.refl _ _⟩
  case round =>
    obtain ⟨i, t, rfl, rfl, hi, hts, HT, zr, KR⟩ := hrel
    by_cases hlt : i < l.length
    · obtain ⟨hby, hcel⟩ := HC.out
      obtain ⟨x0, x1⟩ := hby l[i] (List.getElem_mem hlt)
      obtain ⟨g, o, rfl, hg, hcl⟩ := hcel (by intro e; rw [e] at hlt; simp at hlt)
      have hc0 := (KR.out.cell (p := ⟨g, o + i, none⟩) hg).trans (hcl i hlt)
      obtain ⟨x, hx⟩ : ∃ x, l[i] = x := ⟨_, rfl⟩
      rw [hx] at x0 x1 hc0
      clear hby hcel hcl hx
      have n0 : 0 ≤ x % 1300000 := by omega
      have n1 : x % 1300000 < 1300000 := by omega
      rcases hI : isB (x % 1300000) with _ | _
      · have HI := hid hI
        clear hI
        by_cases hm : x % 1300000 ≤ 1114111
        · have hsur : 55296 ≤ x % 1300000 ∧ x % 1300000 ≤ 57343 := by
            have := HI.out; simp [isB] at this; omega
          have HNN := hid (show need (ns (t ++ strOfNums (signL (x % 1300000)))) = (0, false) by
            rw [ns_app, need_front HT.out, ns_str _ (signL_bytes _ n0 hm), need_none _ hsur.1 hsur.2])
          have hsz : (t ++ strOfNums (signL (x % 1300000))).size ≤ 140737488351232 := by
            have := (signL_len (x % 1300000)).2
            rw [ByteArray.size_append, str_size]; omega
          have HSZ := hid hsz
          have HV := hid (show ∀ W : World, Calls Try.prog 23 #[.string (t ++ strOfNums (signL (x % 1300000)))] W (fun e w' => e = .returned (.bool false) ∧ W = w') from fun W => by
            have := valid_walk _ W HSZ.out
            rw [HNN.out] at this
            exact this)
          have hcat : t.size + (strOfNums (signL (x % 1300000))).size ≤ 9223372036854775807 := by
            have := (signL_len (x % 1300000)).2
            rw [str_size]; omega
          clear hsz hsur
          go_wp2_with (first
            | (go_at_call 25; ((with_reducible refine (is_walk _ _).mono ?_); rintro e w' ⟨rfl, hb⟩; rw [HI.out]; have k1 := (⟨KR.out.trans (hb.mono zr), Nat.le_trans zr hb.size⟩ : _ ∧ _); have zr2 := k1.2; have KR2 := hid k1.1; clear k1 hb))
            | (go_at_call 26; ((with_reducible refine (sign_num _ _ n0 hm).mono ?_); rintro e w' ⟨rfl, hb⟩; have k1 := (⟨KR2.out.trans (hb.mono zr2), Nat.le_trans zr2 hb.size⟩ : _ ∧ _); have zr3 := k1.2; have KR3 := hid k1.1; clear k1 hb))
            | (go_at_call 23; ((with_reducible refine (HV.out _).mono ?_); rintro e w' ⟨rfl, rfl⟩)))
          go_roundw
          case rel => exact ⟨i + 1, t, rfl, by go_num, by omega, by omega, HT, zr3, KR3⟩
          case measure => simp [intOf]; omega
        · go_wp2_with (first
            | (go_at_call 25; ((with_reducible refine (is_walk _ _).mono ?_); rintro e w' ⟨rfl, hb⟩; rw [HI.out]; have k1 := (⟨KR.out.trans (hb.mono zr), Nat.le_trans zr hb.size⟩ : _ ∧ _); have zr2 := k1.2; have KR2 := hid k1.1; clear k1 hb)))
          go_roundw
          case rel => exact ⟨i + 1, t, rfl, by go_num, by omega, by omega, HT, zr2, KR2⟩
          case measure => simp [intOf]; omega
      · have HI := hid hI
        have hn := (isB_iff _).1 hI
        clear hI
        obtain ⟨_, hm, his⟩ := hn
        have HIS := hid his
        clear his
        go_upto_region 12 with (first
          | (go_at_call 25; ((with_reducible refine (is_walk _ _).mono ?_); rintro e w' ⟨rfl, hb⟩; rw [HI.out]; have k1 := (⟨KR.out.trans (hb.mono zr), Nat.le_trans zr hb.size⟩ : _ ∧ _); have zr2 := k1.2; have KR2 := hid k1.1; clear k1 hb))
          | (go_at_call 26; ((with_reducible refine (sign_num _ _ n0 hm).mono ?_); rintro e w' ⟨rfl, hb⟩; have k1 := (⟨KR2.out.trans (hb.mono zr2), Nat.le_trans zr2 hb.size⟩ : _ ∧ _); have zr3 := k1.2; have KR3 := hid k1.1; clear k1 hb)))
        have hL := signL_len (x % 1300000)
        have HNS := hid (ns_str _ (signL_bytes _ n0 hm))
        have HALL := hid (show need (ns (t ++ strOfNums (signL (x % 1300000)))) = (0, true) by
          rw [ns_app, need_front HT.out, HNS.out, need_sign _ n0 hm HIS.out])
        have HCUT := hid (show ∀ k : Nat, 1 ≤ k → k < (signL (x % 1300000)).length → need (ns (t ++ (strOfNums (signL (x % 1300000))).extract 0 k)) = (((signL (x % 1300000)).length : Int) - k, true) by
          intro k h1 h2
          have e : ns ((strOfNums (signL (x % 1300000))).extract 0 k) = (signL (x % 1300000)).take k := by
            have h3 : ns ((strOfNums (signL (x % 1300000))).extract 0 k) = (ns (strOfNums (signL (x % 1300000)))).take k := by
              unfold ns
              rw [Lib.extract_data, List.drop_zero, Nat.sub_zero, List.map_take]
            rw [h3, HNS.out]
          rw [ns_app, need_front HT.out, e, need_cut _ n0 hm HIS.out k h1 h2])
        rw [← str_size] at hL
        have HSZ := hid (str_size (signL (x % 1300000)))
        obtain ⟨S, hS⟩ : ∃ S, strOfNums (signL (x % 1300000)) = S := ⟨_, rfl⟩
        rw [hS] at hL HALL HCUT HSZ ⊢
        rw [← HSZ.out] at HCUT
        clear hS HNS HSZ
        obtain ⟨S1, S4⟩ := hL
        have HTS := hid hts
        obtain ⟨wo, rfl⟩ : ∃ wo : World, wo = w' := ⟨_, rfl⟩
        go_wp2
        go_loopw [7] (fun v7 wr => ∃ k : Nat, v7 = .int .i64 k ∧ 1 ≤ k ∧ k ≤ S.size ∧ w.heap.size ≤ wr.heap.size ∧ Hid (Below w.heap.size w wr)) (fun v7 _ => S.size - (intOf v7).toNat)
        case atStart => exact ⟨1, by go_num, by omega, S1, zr3, KR3⟩
        case round =>
          obtain ⟨k, rfl, k1, k2, zk, KK⟩ := hrel
          by_cases hk : k < S.size
          · have esz : (S.extract 0 k).size = k := by simp; omega
            have HES := hid esz
            have hcat : t.size + (S.extract 0 k).size ≤ 9223372036854775807 := by rw [esz]; omega
            have hsz : (t ++ S.extract 0 k).size ≤ 140737488351232 := by rw [ByteArray.size_append, esz]; omega
            have HV := hid (show ∀ W : World, Calls Try.prog 21 #[.string (t ++ S.extract 0 k)] W (fun e w' => e = .returned (.tuple #[.int .i64 ((S.size : Int) - k), .bool true]) ∧ W = w') from fun W => by
              have := need_walk _ W hsz
              rw [HCUT.out k k1 hk] at this
              exact this)
            clear esz hsz
            go_wp2_with (first
              | (go_at_call 21; ((with_reducible refine (HV.out _).mono ?_); rintro e w' ⟨rfl, rfl⟩)))
            go_roundw
            case rel => exact ⟨k + 1, by go_num, by omega, by omega, zk, KK⟩
            case measure => simp [intOf]; omega
          · have hcat : t.size + S.size ≤ 9223372036854775807 := by omega
            have HSS := hid (show (t ++ S).size ≤ 4 * (i + 1) by rw [ByteArray.size_append]; omega)
            go_wp2
            refine ⟨⟨i + 1, t ++ S, rfl, by go_num, by omega, HSS.out, HALL, zk, KK⟩, by simp [intOf]; omega⟩
    · have hsz : t.size ≤ 140737488351232 := by omega
      have HV := hid (show ∀ W : World, Calls Try.prog 23 #[.string t] W (fun e w' => e = .returned (.bool true) ∧ W = w') from fun W => by
        have := valid_walk t W hsz
        rw [HT.out] at this
        exact this)
      go_wp2_with (first
        | (go_at_call 23; ((with_reducible refine (HV.out _).mono ?_); rintro e w' ⟨rfl, rfl⟩))
        | (go_at_call 24; ((with_reducible refine (utf_awake _).mono ?_); rintro e w' ⟨rfl, rfl⟩)))
      go_ret
      exact ⟨rfl, KR.out⟩

theorem signs_walk (A : Option Addr) (c : Nat) (l : List Int) (w : World) (h : Came32 w w.heap.size A l) (hl : (l.length : Int) ≤ 9223372036854775807) :
    Calls Try.prog 8 #[.slice A l.length c] w (fun e w' => e = .returned (.bool true) ∧ Below w.heap.size w w') := by
  by_cases h1 : l.length ≤ 100
  · exact signs_yes A c l w h h1
  · go_enter Try.func8, Try.ntmps8
    go_wp2
    go_ret
    exact ⟨rfl, (by repeat (first | exact Below.refl _ _ | assumption | refine Below.alloc ?_ (by first | exact Nat.le_refl _ | (simp; done) | (simp; omega) | omega) _ | refine Below.drew ?_ | refine Below.setCell ?_ (by first | exact Nat.le_refl _ | (simp; done) | (simp; omega) | omega) _ | refine below_call ?_ (by assumption) (by first | exact Nat.le_refl _ | (simp; done) | (simp; omega) | omega)))⟩

end Go.Proofs.Ytlpocahflolmpaa
