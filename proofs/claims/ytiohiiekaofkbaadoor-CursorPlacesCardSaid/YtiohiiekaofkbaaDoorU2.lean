/- How many bytes there must be more; is it a text? (the package's own way) -/
import Derived.Test.YtiohiiekaofkbaaDoorU1
import Derived.Lib.IndexBytes
namespace Go.Proofs.YtiohiiekaofkbaaDoor
set_option linter.unusedVariables false
set_option linter.unusedSimpArgs false
open Go.RowKit

/-- how many bytes there must be more; false: it is the front of no text ('f': how many signs are looked at) -/
def needF : Nat → List Int → Int × Bool
  | 0, _ => (0, true)
  | f + 1, l => if l = [] then (0, true) else if (sgnR l).2.2 = false ∨ 0 < (sgnR l).2.1 then ((sgnR l).2.1, (sgnR l).2.2) else needF f (l.drop (sgnR l).1.toNat)
def need (l : List Int) : Int × Bool := needF l.length l

theorem sgnG_le (m lo hi : Int) (l : List Int) : ∀ n : Int, n ≤ m + 1 → (sgnG m lo hi n l).2.2 = true → n ≤ (sgnG m lo hi n l).1 ∧ (sgnG m lo hi n l).1 ≤ m + 1 ∧ (sgnG m lo hi n l).1 ≤ n + l.length ∧ (sgnG m lo hi n l).2.1 = m + 1 - (sgnG m lo hi n l).1 := by
  induction l with
  | nil => intro n h _; simp [sgnG]; omega
  | cons x t ih =>
    intro n h ht
    simp only [sgnG] at ht ⊢
    split at ht
    · rename_i h1; rw [if_pos h1]; simp; omega
    · rename_i h1
      split at ht
      · simp at ht
      · rename_i h2
        rw [if_neg h1, if_neg h2]
        have := ih (n + 1) (by omega) ht
        simp only [List.length_cons]
        push_cast
        omega
theorem sgnR_le (l : List Int) (h : (sgnR l).2.2 = true) : 1 ≤ (sgnR l).1 ∧ (sgnR l).1 ≤ 4 ∧ (sgnR l).1 ≤ l.length ∧ 0 ≤ (sgnR l).2.1 ∧ (sgnR l).2.1 ≤ 3 := by
  cases l with
  | nil => simp [sgnR] at h
  | cons b t =>
    have hl := leadR_le b
    simp only [sgnR] at h ⊢
    split at h
    · rename_i hb
      rw [if_pos hb]
      have := sgnG_le _ _ _ t 1 (by omega) h
      simp only [List.length_cons]
      push_cast
      omega
    · simp at h
theorem sgnG_neg (m lo hi : Int) (l : List Int) : ∀ n : Int, n ≤ m + 1 → 0 ≤ n → (sgnG m lo hi n l).2.2 = false → (sgnG m lo hi n l) = (0, 0, false) := by
  induction l with
  | nil => intro n h h0 ht; simp [sgnG] at ht
  | cons x t ih =>
    intro n h h0 ht
    simp only [sgnG] at ht ⊢
    split at ht
    · simp at ht
    · rename_i h1
      split at ht
      · rename_i h2; rw [if_neg h1, if_pos h2]
      · rename_i h2
        rw [if_neg h1, if_neg h2]
        exact ih (n + 1) (by omega) (by omega) ht
theorem sgnR_neg (l : List Int) (h : (sgnR l).2.2 = false) : sgnR l = (0, 0, false) := by
  cases l with
  | nil => rfl
  | cons b t =>
    have hl := leadR_le b
    simp only [sgnR] at h ⊢
    split at h
    · rename_i hb
      rw [if_pos hb]
      exact sgnG_neg _ _ _ t 1 (by omega) (by omega) h
    · rename_i hb; rw [if_neg hb]
theorem sgnR_bd (l : List Int) : 0 ≤ (sgnR l).1 ∧ (sgnR l).1 ≤ 4 ∧ (sgnR l).1 ≤ l.length ∧ 0 ≤ (sgnR l).2.1 ∧ (sgnR l).2.1 ≤ 3 := by
  cases h : (sgnR l).2.2 with
  | true => have := sgnR_le l h; omega
  | false => rw [sgnR_neg l h]; simp

theorem ns_extract (s : ByteArray) (k : Nat) (h : k ≤ s.size) : ns (s.extract k s.size) = (ns s).drop k := by
  unfold ns
  rw [Lib.extract_data, List.take_of_length_le (by simp), List.map_drop]
theorem empty_yes {t : ByteArray} (h : t.size = 0) : t.toList = [] ∧ (!t.toList.isEmpty) = false := by
  have e : t.data.toList = [] := by
    have : t.data.toList.length = 0 := by simpa using h
    exact List.eq_nil_of_length_eq_zero this
  rw [Lib.toList_data, e]; simp
theorem empty_no {t : ByteArray} (h : 0 < t.size) : (!t.toList.isEmpty) = true := by
  rw [Lib.toList_data]
  cases hd : t.data.toList with
  | nil => have : t.data.toList.length = t.size := by simp
           rw [hd] at this; simp at this; omega
  | cons a l => rfl

set_option maxHeartbeats 4000000 in
theorem need_walk (s : ByteArray) (w : World) (hs : s.size ≤ 140737488351232) :
    Calls Tryd.prog 134 #[.string s] w (fun e w' => e = .returned (.tuple #[.int .i64 (need (ns s)).1, .bool (need (ns s)).2]) ∧ w = w') := by
  go_enter Tryd.func134, Tryd.ntmps134
  go_wp2
  go_loopw [0] (fun v0 wr => ∃ (t : ByteArray) (f : Nat), v0 = .string t ∧ t.size ≤ 140737488351232 ∧ t.size ≤ f ∧ Hid (needF f (ns t) = need (ns s)) ∧ wr = w) (fun v0 _ => match v0 with | .string t => t.size | _ => 0)
  case atStart => exact ⟨s, s.size, rfl, hs, Nat.le_refl _, hid (by unfold need; rw [ns_len]), rfl⟩
  case round =>
    obtain ⟨t, f, rfl, ht, hf, HN, rfl⟩ := hrel
    rcases Nat.eq_zero_or_pos t.size with hz | hp
    · have HV := hid (show need (ns s) = (0, true) by
        rw [← HN.out]
        have : ns t = [] := List.eq_nil_of_length_eq_zero (by rw [ns_len]; exact hz)
        cases f <;> simp [needF, this])
      obtain ⟨q1, q2⟩ := empty_yes hz
      clear hz
      go_wp2
      refine bodyPost_ret (v := .tuple #[.int .i64 0, .bool true]) ?_ rfl ⟨by rw [HV.out], rfl⟩
      simp [results, Tryd.results134, go_sem]
    · have hb := sgnR_bd (ns t)
      obtain ⟨f, rfl⟩ : ∃ g, f = g + 1 := ⟨f - 1, by omega⟩
      have HN2 := hid (show (if (sgnR (ns t)).2.2 = false ∨ 0 < (sgnR (ns t)).2.1 then ((sgnR (ns t)).2.1, (sgnR (ns t)).2.2) else needF f ((ns t).drop (sgnR (ns t)).1.toNat)) = need (ns s) by
        have h2 := HN.out
        rw [needF, if_neg (fun h => by have q : (ns t).length = 0 := (by rw [h]; rfl); rw [ns_len] at q; omega)] at h2
        exact h2)
      rw [ns_len] at hb
      have hpos := sgnR_le (ns t)
      have hs0 := sign_walk t wr ht hp
      rcases hR : sgnR (ns t) with ⟨h, k, is⟩
      rw [hR] at hs0 hb HN2 hpos
      simp only at hs0 hb HN2 hpos
      obtain ⟨hb0, hb1, hb2, hb3, hb4⟩ := hb
      have HSW := hid hs0
      have q1 := empty_no hp
      clear hs0 hR
      cases is with
      | false =>
        have HV := hid (show need (ns s) = (k, false) by rw [← HN2.out]; simp)
        go_wp2_with (first | (go_at_call 160; ((with_reducible refine HSW.out.mono ?_); rintro e w' ⟨rfl, rfl⟩)))
        refine bodyPost_ret (v := .tuple #[.int .i64 k, .bool false]) ?_ rfl ⟨by rw [HV.out], rfl⟩
        simp [results, Tryd.results134, go_sem]
      | true =>
        have hpo := hpos rfl
        by_cases hk : 0 < k
        · have HV := hid (show need (ns s) = (k, true) by rw [← HN2.out]; simp [hk])
          go_wp2_with (first | (go_at_call 160; ((with_reducible refine HSW.out.mono ?_); rintro e w' ⟨rfl, rfl⟩)))
          refine bodyPost_ret (v := .tuple #[.int .i64 k, .bool true]) ?_ rfl ⟨by rw [HV.out], rfl⟩
          simp [results, Tryd.results134, go_sem]
        · have HV := hid (show needF f ((ns t).drop h.toNat) = need (ns s) by rw [← HN2.out, if_neg (by simp; omega)])
          have hsz : (t.extract h.toNat t.size).size = t.size - h.toNat := by simp
          have HSZ := hid hsz
          clear hsz hpos
          go_wp2_with (first | (go_at_call 160; ((with_reducible refine HSW.out.mono ?_); rintro e w' ⟨rfl, rfl⟩)))
          refine ⟨⟨_, f, rfl, by rw [HSZ.out]; omega, by rw [HSZ.out]; omega, hid (by rw [ns_extract t _ (by omega)]; exact HV.out), trivial⟩, ?_⟩
          show (t.extract h.toNat t.size).size < t.size
          rw [HSZ.out]
          omega

set_option maxHeartbeats 4000000 in
theorem valid_walk (s : ByteArray) (w : World) (hs : s.size ≤ 140737488351232) :
    Calls Tryd.prog 80 #[.string s] w (fun e w' => e = .returned (.bool ((need (ns s)).2 && (need (ns s)).1 == 0)) ∧ w = w') := by
  have hn := need_walk s w hs
  rcases hR : need (ns s) with ⟨k, is⟩
  rw [hR] at hn
  simp only at hn
  have HNW := hid hn
  clear hn hR
  go_enter Tryd.func80, Tryd.ntmps80
  go_wp2_with (first | (go_at_call 134; ((with_reducible refine HNW.out.mono ?_); rintro e w' ⟨rfl, rfl⟩)))
  all_goals
    go_ret
    refine ⟨ret_bool ?_, rfl⟩
    first | rfl | (simp [*]; done)

end Go.Proofs.YtiohiiekaofkbaaDoor
