/- The reference's Need: how many bytes there must be more. -/
import Derived.Test.YtiohiiekaofkbaaZV
namespace Go.Proofs.Ytiohiiekaofkbaa
set_option linter.unusedVariables false
set_option linter.unusedSimpArgs false
open Go.RowKit

theorem begT_iff (z : Int) (l : List Int) (hl : ∀ x ∈ l, 0 ≤ x ∧ x < 256) (z0 : 1 ≤ z) (z1 : z ≤ 4) : begT z l = true ↔ SP z (sgnR l) := by
  rcases (show z = 1 ∨ z = 2 ∨ z = 3 ∨ z = 4 by omega) with rfl | rfl | rfl | rfl
  · exact beg1 l hl
  · exact beg2 l hl
  · exact beg3 l hl
  · exact beg4 l hl
theorem sgnG_lacks (m lo hi : Int) (l : List Int) : ∀ n : Int, n ≤ m + 1 → (sgnG m lo hi n l).2.2 = true → 0 < (sgnG m lo hi n l).2.1 → (sgnG m lo hi n l).1 = n + l.length := by
  induction l with
  | nil => intro n h _ _; simp [sgnG]
  | cons x t ih =>
    intro n h ht hk
    simp only [sgnG] at ht hk ⊢
    split at ht
    · rename_i h1; rw [if_pos h1] at hk; simp at hk; omega
    · rename_i h1
      split at ht
      · simp at ht
      · rename_i h2
        rw [if_neg h1, if_neg h2] at hk
        rw [if_neg h1, if_neg h2, ih (n + 1) (by omega) ht hk]
        simp only [List.length_cons]
        push_cast
        omega
theorem sgnR_lacks (l : List Int) (h : (sgnR l).2.2 = true) (hk : 0 < (sgnR l).2.1) : (sgnR l).1 = l.length := by
  cases l with
  | nil => simp [sgnR] at h
  | cons b t =>
    have hl := leadR_le b
    simp only [sgnR] at h hk ⊢
    split at h
    · rename_i hb
      rw [if_pos hb] at hk
      rw [if_pos hb, sgnG_lacks _ _ _ t 1 (by omega) h hk]
      simp only [List.length_cons]
      push_cast
      omega
    · simp at h
theorem sgnR_sum (l : List Int) (h : (sgnR l).2.2 = true) : 1 ≤ (sgnR l).1 + (sgnR l).2.1 ∧ (sgnR l).1 + (sgnR l).2.1 ≤ 4 := by
  cases l with
  | nil => simp [sgnR] at h
  | cons b t =>
    have hl := leadR_le b
    simp only [sgnR] at h ⊢
    split at h
    · rename_i hb
      rw [if_pos hb]
      have := sgnG_le _ _ _ t 1 (by omega) h
      omega
    · simp at h

theorem begT_false {z : Int} {l : List Int} (hl : ∀ x ∈ l, 0 ≤ x ∧ x < 256) (z0 : 1 ≤ z) (z1 : z ≤ 4) (h : ¬ SP z (sgnR l)) : begT z l = false := by
  rcases hb : begT z l with _ | _
  · rfl
  · exact absurd ((begT_iff z l hl z0 z1).1 hb) h

set_option maxHeartbeats 8000000 in
theorem refNeed_walk (s : ByteArray) (w : World) (hs : s.size ≤ 1000000000) :
    Calls Try.prog 32 #[.string s] w (fun e w' => e = .returned (.tuple #[.int .i64 (need (ns s)).1, .bool (need (ns s)).2]) ∧ Below w.heap.size w w') := by
  go_enter Try.func32, Try.ntmps32
  go_wp2
  go_loopw [4] (fun v4 wr => ∃ (a f : Nat), v4 = .int .i64 a ∧ a ≤ s.size ∧ s.size - a ≤ f ∧ Hid (needF f ((ns s).drop a) = need (ns s)) ∧ w.heap.size ≤ wr.heap.size ∧ Hid (Below w.heap.size w wr)) (fun v4 _ => s.size - (intOf v4).toNat)
  case atStart => exact ⟨0, s.size, by go_num, by omega, by omega, hid (by unfold need; rw [ns_len]; rfl), Nat.le_refl _, Below.refl _ _⟩
  case round =>
    obtain ⟨a, f, rfl, ha, hf, HN, zr, KR⟩ := hrel
    by_cases hlt : a < s.size
    · obtain ⟨f, rfl⟩ : ∃ g, f = g + 1 := ⟨f - 1, by omega⟩
      obtain ⟨l, hl⟩ : ∃ l, (ns s).drop a = l := ⟨_, rfl⟩
      have hlen : l.length = s.size - a := by rw [← hl, List.length_drop, ns_len]
      have hby : ∀ x ∈ l, 0 ≤ x ∧ x < 256 := fun x hx => ns_byte s x (List.mem_of_mem_drop (by rw [hl]; exact hx))
      have hex : ns (s.extract a s.size) = l := by rw [ns_extract s a ha, hl]
      have hesz : (s.extract a s.size).size = s.size - a := by simp
      have HN2 := hid (show (if (sgnR l).2.2 = false ∨ 0 < (sgnR l).2.1 then ((sgnR l).2.1, (sgnR l).2.2) else needF f (l.drop (sgnR l).1.toNat)) = need (ns s) by
        have h2 := HN.out
        rw [hl, needF, if_neg (fun h => by rw [h] at hlen; simp at hlen; omega)] at h2
        exact h2)
      have HBG := hid (show ∀ (z : Int) (W : World), 1 ≤ z → z ≤ 4 → Calls Try.prog 40 #[.string (s.extract a s.size), .int .i64 z] W (fun e w' => e = .returned (.bool (begT z l)) ∧ Below W.heap.size W w') by
        intro z W z0 z1
        have := begins_any (s.extract a s.size) z W (by rw [hesz]; omega) (by rw [hesz]; omega) z0 z1
        rwa [hex] at this)
      have HBY := hid hby
      have hb := sgnR_bd l
      have hlk := sgnR_lacks l
      have hsum := sgnR_sum l
      have hng := sgnR_neg l
      have hnn : l.drop (sgnR l).1.toNat = (ns s).drop (a + (sgnR l).1.toNat) := by rw [← hl, List.drop_drop]
      rw [hnn] at HN2
      have HSPF := hid (fun (z : Int) (z0 : 1 ≤ z) (z1 : z ≤ 4) => @begT_false z l hby z0 z1)
      have HSPT := hid (fun (z : Int) (z0 : 1 ≤ z) (z1 : z ≤ 4) => begT_iff z l hby z0 z1)
      rcases hR : sgnR l with ⟨h, k, is⟩
      rw [hR] at HN2 hb hlk hsum hng HSPF HSPT
      simp only at HN2 hb hlk hsum hng
      rw [hlen] at hb hlk
      obtain ⟨hb0, hb1, hb2, hb3, hb4⟩ := hb
      have HEX := hid hex
      have HLN := hid hlen
      have HL := hid hl
      have HSZ := hid hesz
      clear hl hlen hby hex hesz hnn hR HN
      cases is with
      | false =>
        have HV := hid (show need (ns s) = (0, false) by rw [← HN2.out, if_pos (.inl rfl)]; have := hng rfl; simp at this; simp [this])
        have HF := hid (show ∀ z : Int, 1 ≤ z → z ≤ 4 → begT z l = false from fun z z0 z1 => HSPF.out z z0 z1 (by simp [SP]))
        clear hlk hsum hng
        obtain ⟨wo, rfl⟩ : ∃ wo : World, wo = wr := ⟨_, rfl⟩
        go_wp2
        go_loopw [4, 5, 6] (fun v4 v5 v6 wr => ∃ z : Int, v4 = .int .i64 a ∧ v5 = .bool false ∧ v6 = .int .i64 z ∧ 1 ≤ z ∧ z ≤ 5 ∧ w.heap.size ≤ wr.heap.size ∧ Hid (Below w.heap.size w wr)) (fun _ _ v6 _ => (5 - intOf v6).toNat)
        case atStart => exact ⟨1, rfl, rfl, rfl, by omega, by omega, zr, KR⟩
        case round =>
          obtain ⟨z, rfl, rfl, rfl, z0, z1, zw, KW⟩ := hrel
          by_cases hz : z ≤ 4
          · have HFZ := hid (HF.out z z0 hz)
            go_wp2_with (first | (go_at_call 40; ((with_reducible refine (HBG.out z _ z0 hz).mono ?_); rintro e w' ⟨rfl, hb⟩; rw [HFZ.out]; have k1 := (⟨KW.out.trans (hb.mono zw), Nat.le_trans zw hb.size⟩ : _ ∧ _); have zw2 := k1.2; have KW2 := hid k1.1; clear k1 hb)))
            go_roundw
            case rel => exact ⟨z + 1, rfl, rfl, rfl, by omega, by omega, zw2, KW2⟩
            case measure => simp [intOf]; omega
          · go_wp2
            refine bodyPost_ret (v := .tuple #[.int .i64 0, .bool false]) ?_ rfl ⟨by rw [HV.out], KW.out⟩
            simp [results, Try.results32, go_sem]
      | true =>
        obtain ⟨s0, s1⟩ := hsum rfl
        have hlk2 := hlk rfl
        clear hlk hsum hng
        have HT := hid (show begT (h + k) l = true from (HSPT.out (h + k) s0 s1).2 ⟨rfl, rfl⟩)
        have HF := hid (show ∀ z : Int, 1 ≤ z → z ≤ 4 → z ≠ h + k → begT z l = false from fun z z0 z1 hne => HSPF.out z z0 z1 (by simp [SP]; omega))
        obtain ⟨wo, rfl⟩ : ∃ wo : World, wo = wr := ⟨_, rfl⟩
        go_wp2
        go_loopw [4, 5, 6] (fun v4 v5 v6 wr => ∃ (z : Int) (fd : Bool), v4 = .int .i64 (if fd then (a : Int) + h else a) ∧ v5 = .bool fd ∧ v6 = .int .i64 z ∧ 1 ≤ z ∧ z ≤ 5 ∧ (fd = false → z ≤ h + k) ∧ (fd = true → k ≤ 0) ∧ w.heap.size ≤ wr.heap.size ∧ Hid (Below w.heap.size w wr)) (fun _ v5 v6 _ => (5 - intOf v6).toNat + (match v5 with | .bool true => 0 | _ => 1))
        case atStart => exact ⟨1, false, by simp, rfl, rfl, by omega, by omega, fun _ => s0, fun h => (by cases h), zr, KR⟩
        case round =>
          obtain ⟨z, fd, rfl, rfl, rfl, z0, z1, zf, zt, zw, KW⟩ := hrel
          cases fd with
          | true =>
            have hk0 := zt rfl
            clear zf zt
            have HV := hid (show needF f ((ns s).drop (a + h.toNat)) = need (ns s) by rw [← HN2.out, if_neg (by simp; omega)])
            obtain ⟨h', rfl⟩ : ∃ h' : Nat, h = h' := ⟨h.toNat, by omega⟩
            simp only [if_true]
            have HV2 := hid (show needF f ((ns s).drop (a + h')) = need (ns s) by have := HV.out; simpa using this)
            go_wp2
            all_goals
              refine ⟨⟨a + h', f, by go_num, by omega, by omega, HV2, zw, KW⟩, by simp [intOf]; omega⟩
          | false =>
            have zh := zf rfl
            clear zf zt
            simp only [Bool.false_eq_true, if_false]
            by_cases hz : z < h + k
            · have HFZ := hid (HF.out z z0 (by omega) (by omega))
              have hz4 : z ≤ 4 := by omega
              go_wp2_with (first | (go_at_call 40; ((with_reducible refine (HBG.out z _ z0 (by omega)).mono ?_); rintro e w' ⟨rfl, hb⟩; rw [HFZ.out]; have k1 := (⟨KW.out.trans (hb.mono zw), Nat.le_trans zw hb.size⟩ : _ ∧ _); have zw2 := k1.2; have KW2 := hid k1.1; clear k1 hb)))
              go_roundw
              case rel => exact ⟨z + 1, false, by simp, rfl, rfl, by omega, by omega, fun _ => by omega, fun h => (by cases h), zw2, KW2⟩
              case measure => simp [intOf]; omega
            · have hz2 : z = h + k := by omega
              have hz4 : z ≤ 4 := by omega
              have HTZ := hid (show begT z l = true by rw [hz2]; exact HT.out)
              by_cases hk : 0 < k
              · have hh := hlk2 hk
                have hgt : (s.size : Int) < (a : Int) + z := by omega
                have HVK := hid (show need (ns s) = ((a : Int) + z - (s.size : Int), true) by rw [← HN2.out, if_pos (.inr hk)]; congr 1; omega)
                clear hz hz2 hh hlk2 hk
                go_wp2_with (first | (go_at_call 40; ((with_reducible refine (HBG.out z _ z0 (by omega)).mono ?_); rintro e w' ⟨rfl, hb⟩; rw [HTZ.out]; have k1 := (⟨KW.out.trans (hb.mono zw), Nat.le_trans zw hb.size⟩ : _ ∧ _); have zw2 := k1.2; have KW2 := hid k1.1; clear k1 hb)))
                refine bodyPost_ret (v := .tuple #[.int .i64 ((a : Int) + z - (s.size : Int)), .bool true]) ?_ rfl ⟨by rw [HVK.out], KW2.out⟩
                simp [results, Try.results32, go_sem]
              · have hle : (a : Int) + z ≤ (s.size : Int) := by omega
                have HZH := hid (show z = h by omega)
                clear hz hz2 hlk2
                go_wp2_with (first | (go_at_call 40; ((with_reducible refine (HBG.out z _ z0 (by omega)).mono ?_); rintro e w' ⟨rfl, hb⟩; rw [HTZ.out]; have k1 := (⟨KW.out.trans (hb.mono zw), Nat.le_trans zw hb.size⟩ : _ ∧ _); have zw2 := k1.2; have KW2 := hid k1.1; clear k1 hb)))
                go_roundw
                case rel => exact ⟨z + 1, true, by rw [if_pos rfl, HZH.out], rfl, rfl, by omega, by omega, fun h => (by cases h), fun _ => by omega, zw2, KW2⟩
                case measure => simp [intOf]; omega
    · have hae : a = s.size := by omega
      have HV := hid (show need (ns s) = (0, true) by
        rw [← HN.out, List.drop_eq_nil_of_le (by rw [ns_len]; omega)]
        cases f <;> simp [needF])
      clear hae
      go_wp2
      refine bodyPost_ret (v := .tuple #[.int .i64 0, .bool true]) ?_ rfl ⟨by rw [HV.out], KR.out⟩
      simp [results, Try.results32, go_sem]

end Go.Proofs.Ytiohiiekaofkbaa
