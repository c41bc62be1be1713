/- The sign with which bytes begin; how many bytes there must be more (the package's own way). -/
import Derived.Test.YtiohiiekaofkbaaDoorU0
import Derived.Lib.SlBytesConst
namespace Go.Proofs.YtiohiiekaofkbaaDoor
set_option linter.unusedVariables false
set_option linter.unusedSimpArgs false
open Go.RowKit

/-- a string's bytes -/
def ns (s : ByteArray) : List Int := s.data.toList.map (fun x => (x.toNat : Int))
theorem ns_len (s : ByteArray) : (ns s).length = s.size := by simp [ns]
theorem ns_get (s : ByteArray) (i : Nat) (h : i < s.size) : (ns s)[i]? = some (s[i].toNat : Int) := by
  simp only [ns, List.getElem?_map]
  rw [List.getElem?_eq_getElem (by simpa using h)]
  rfl
theorem ns_byte (s : ByteArray) : ∀ x ∈ ns s, 0 ≤ x ∧ x < 256 := by
  intro x hx
  simp only [ns, List.mem_map] at hx
  obtain ⟨y, _, rfl⟩ := hx
  have := y.toNat_lt
  omega
theorem ns_drop (s : ByteArray) (i : Nat) (h : i < s.size) : (ns s).drop i = (s[i].toNat : Int) :: (ns s).drop (i + 1) := by
  have hg := ns_get s i h
  have hl : i < (ns s).length := by rw [ns_len]; exact h
  rw [List.drop_eq_getElem_cons hl]
  rw [List.getElem?_eq_getElem hl] at hg
  rw [Option.some.inj hg]

/-- behind n bytes of a sign -/
def sgnG (m lo hi : Int) : Int → List Int → Int × Int × Bool
  | n, [] => (n, m + 1 - n, true)
  | n, x :: t => if m < n then (n, m + 1 - n, true) else if n = 1 ∧ (x < lo ∨ hi < x) ∨ ¬ (128 ≤ x ∧ x < 192) then (0, 0, false) else sgnG m lo hi (n + 1) t
/-- the sign with which bytes begin: how many bytes it has, how many it lacks -/
def sgnR : List Int → Int × Int × Bool
  | [] => (0, 0, false)
  | b :: t => if (leadR b).2.2.2 then sgnG (leadR b).1 (leadR b).2.1 (leadR b).2.2.1 1 t else (0, 0, false)

theorem and192 (x : Int) (h0 : 0 ≤ x) (h : x < 256) : bits .and .u8 x 192 = x / 64 * 64 := by
  obtain ⟨n, rfl⟩ : ∃ n : Nat, x = n := ⟨x.toNat, by omega⟩
  have hn : n < 256 := by omega
  have key : ∀ m : Fin 256, bits .and .u8 ((m.val : Nat) : Int) 192 = ((m.val : Nat) : Int) / 64 * 64 := by decide +kernel
  exact key ⟨n, hn⟩
theorem leadR_le (b : Int) : 0 ≤ (leadR b).1 ∧ (leadR b).1 ≤ 3 ∧ 0 ≤ (leadR b).2.1 ∧ (leadR b).2.1 ≤ 255 ∧ 0 ≤ (leadR b).2.2.1 ∧ (leadR b).2.2.1 ≤ 255 := by
  rcases lead_cases b with ⟨_, h⟩ | ⟨_, h⟩ | ⟨_, h⟩ | ⟨_, h⟩ | ⟨_, h⟩ | ⟨_, h⟩ | ⟨_, h⟩ | ⟨_, h⟩ | ⟨_, h⟩ <;> rw [h] <;> decide

set_option maxRecDepth 100000 in
set_option maxHeartbeats 4000000 in
theorem sign_walk (s : ByteArray) (w : World) (hs : s.size ≤ 140737488351232) (hp : 0 < s.size) :
    Calls Tryd.prog 160 #[.string s] w (fun e w' => e = .returned (.tuple #[.int .i64 (sgnR (ns s)).1, .int .i64 (sgnR (ns s)).2.1, .bool (sgnR (ns s)).2.2]) ∧ w = w') := by
  have hb0 : (0 : Int) ≤ (s[0].toNat : Int) := by omega
  have hb1 : ((s[0].toNat : Nat) : Int) < 256 := by have := s[0].toNat_lt; omega
  have hR : sgnR (ns s) = if (leadR (s[0].toNat : Int)).2.2.2 then sgnG (leadR (s[0].toNat : Int)).1 (leadR (s[0].toNat : Int)).2.1 (leadR (s[0].toNat : Int)).2.2.1 1 ((ns s).drop 1) else (0, 0, false) := by
    have := ns_drop s 0 hp
    rw [List.drop_zero] at this
    rw [this]
    simp [sgnR]
  have hl := lead_walk (s[0].toNat : Int)
  have hle := leadR_le (s[0].toNat : Int)
  rcases hx : leadR (s[0].toNat : Int) with ⟨m, lo, hi, is⟩
  rw [hx] at hR hl hle
  simp only at hR hl hle
  obtain ⟨m0, m1, lo0, lo1, hi0, hi1⟩ := hle
  have HL := hid hl
  have HR := hid hR
  clear hl hR hx
  cases is with
  | false =>
    go_enter Tryd.func160, Tryd.ntmps160
    go_wp2
    go_step3
    go_wp2_with (first | (go_at_call 169; ((with_reducible refine (HL.out _ hb0 hb1).mono ?_); rintro e w' ⟨rfl, rfl⟩)))
    try rw [Exit.noGoto_ret]
    refine bodyPost_ret (v := .tuple #[.int .i64 0, .int .i64 0, .bool false]) ?_ rfl ⟨by rw [HR.out]; rfl, rfl⟩
    simp [results, Tryd.results160, go_sem]
  | true =>
    go_enter Tryd.func160, Tryd.ntmps160
    go_wp2
    go_step3
    go_wp2_with (first | (go_at_call 169; ((with_reducible refine (HL.out _ hb0 hb1).mono ?_); rintro e w' ⟨rfl, rfl⟩)))
    go_step3
    go_wp2
    go_loopw [8] (fun v8 wr => ∃ k : Nat, 1 ≤ k ∧ (k : Int) ≤ m + 1 ∧ v8 = .int .i64 k ∧ k ≤ s.size ∧ Hid (sgnG m lo hi k ((ns s).drop k) = sgnR (ns s)) ∧ wr = w) (fun v8 _ => (m + 1 - intOf v8).toNat)
    case atStart => exact ⟨1, by omega, by omega, by go_num, hp, hid (by rw [HR.out]; rfl), rfl⟩
    case round =>
      obtain ⟨k, k1, k2, rfl, k3, HG, rfl⟩ := hrel
      by_cases hkm : (k : Int) ≤ m
      · by_cases hks : k < s.size
        · have hx0 : (0 : Int) ≤ (s[k].toNat : Int) := by omega
          have hx1 : ((s[k].toNat : Nat) : Int) < 256 := by have := s[k].toNat_lt; omega
          have ha := and192 (s[k].toNat : Int) hx0 hx1
          have HGX := hid (show (if m < (k : Int) then ((k : Int), m + 1 - (k : Int), true) else if (k : Int) = 1 ∧ ((s[k].toNat : Int) < lo ∨ hi < (s[k].toNat : Int)) ∨ ¬ (128 ≤ (s[k].toNat : Int) ∧ (s[k].toNat : Int) < 192) then (0, 0, false) else sgnG m lo hi ((k : Int) + 1) ((ns s).drop (k + 1))) = sgnR (ns s) by
            have h2 := HG.out; rw [ns_drop s k hks] at h2; simpa only [sgnG] using h2)
          obtain ⟨x, hx⟩ : ∃ x : Int, (s[k].toNat : Int) = x := ⟨_, rfl⟩
          rw [hx] at hx0 hx1 ha
          rw [hx] at HGX
          have hcs : (k = 1 ∧ x < lo) ∨ (k = 1 ∧ ¬ x < lo ∧ hi < x) ∨ (k = 1 ∧ ¬ x < lo ∧ ¬ hi < x ∧ ¬ (128 ≤ x ∧ x < 192)) ∨ (k = 1 ∧ ¬ x < lo ∧ ¬ hi < x ∧ (128 ≤ x ∧ x < 192)) ∨ (¬ k = 1 ∧ ¬ (128 ≤ x ∧ x < 192)) ∨ (¬ k = 1 ∧ (128 ≤ x ∧ x < 192)) := by omega
          rcases hcs with ⟨rfl, q2⟩ | ⟨rfl, q2, q3⟩ | ⟨rfl, q2, q3, q4⟩ | ⟨rfl, q2, q3, q4⟩ | ⟨q1, q4⟩ | ⟨q1, q4⟩
          · skip
            have HV := hid (show sgnR (ns s) = (0, 0, false) by rw [← HGX.out, if_neg (by omega), if_pos (by omega)])
            go_wp2
            try rw [Exit.noGoto_ret]
            refine bodyPost_ret (v := .tuple #[.int .i64 0, .int .i64 0, .bool false]) ?_ rfl ⟨by rw [HV.out], rfl⟩
            simp [results, Tryd.results160, go_sem]
          · skip
            have HV := hid (show sgnR (ns s) = (0, 0, false) by rw [← HGX.out, if_neg (by omega), if_pos (by omega)])
            go_wp2
            try rw [Exit.noGoto_ret]
            refine bodyPost_ret (v := .tuple #[.int .i64 0, .int .i64 0, .bool false]) ?_ rfl ⟨by rw [HV.out], rfl⟩
            simp [results, Tryd.results160, go_sem]
          · have e4 : (x / 64 * 64 != 128) = true := by simp; omega
            have HV := hid (show sgnR (ns s) = (0, 0, false) by rw [← HGX.out, if_neg (by omega), if_pos (by omega)])
            go_wp2
            try rw [Exit.noGoto_ret]
            refine bodyPost_ret (v := .tuple #[.int .i64 0, .int .i64 0, .bool false]) ?_ rfl ⟨by rw [HV.out], rfl⟩
            simp [results, Tryd.results160, go_sem]
          · have e4 : (x / 64 * 64 != 128) = false := by simp; omega
            have HV := hid (show sgnG m lo hi (((1 : Nat) : Int) + 1) ((ns s).drop (1 + 1)) = sgnR (ns s) by rw [← HGX.out, if_neg (by omega), if_neg (by omega)])
            go_wp2
            go_roundw
            case rel => exact ⟨1 + 1, by omega, by omega, by go_num, by omega, hid (by rw [← HV.out]; push_cast; rfl), trivial⟩
            case measure => simp [intOf]; omega
          · have e1 : ((k : Int) == 1) = false := by simp; omega
            have e4 : (x / 64 * 64 != 128) = true := by simp; omega
            have HV := hid (show sgnR (ns s) = (0, 0, false) by rw [← HGX.out, if_neg (by omega), if_pos (by omega)])
            go_wp2
            try rw [Exit.noGoto_ret]
            refine bodyPost_ret (v := .tuple #[.int .i64 0, .int .i64 0, .bool false]) ?_ rfl ⟨by rw [HV.out], rfl⟩
            simp [results, Tryd.results160, go_sem]
          · have e1 : ((k : Int) == 1) = false := by simp; omega
            have e4 : (x / 64 * 64 != 128) = false := by simp; omega
            have HV := hid (show sgnG m lo hi ((k : Int) + 1) ((ns s).drop (k + 1)) = sgnR (ns s) by rw [← HGX.out, if_neg (by omega), if_neg (by omega)])
            go_wp2
            go_roundw
            case rel => exact ⟨k + 1, by omega, by omega, by go_num, by omega, hid (by rw [← HV.out]; push_cast; rfl), trivial⟩
            case measure => simp [intOf]; omega
        · have HV := hid (show sgnR (ns s) = ((k : Int), m + 1 - (k : Int), true) by rw [← HG.out, List.drop_eq_nil_of_le (by rw [ns_len]; omega)]; rfl)
          go_wp2
          try rw [Exit.noGoto_ret]
          refine bodyPost_ret (v := .tuple #[.int .i64 k, .int .i64 (m + 1 - k), .bool true]) ?_ rfl ⟨by rw [HV.out], rfl⟩
          simp [results, Tryd.results160, go_sem]
      · have HV := hid (show sgnR (ns s) = ((k : Int), m + 1 - (k : Int), true) by rw [← HG.out]; cases hd : (ns s).drop k with
          | nil => rfl
          | cons a t => simp only [sgnG]; rw [if_pos (by omega)])
        go_wp2
        try rw [Exit.noGoto_ret]
        refine bodyPost_ret (v := .tuple #[.int .i64 k, .int .i64 (m + 1 - k), .bool true]) ?_ rfl ⟨by rw [HV.out], rfl⟩
        simp [results, Tryd.results160, go_sem]

end Go.Proofs.YtiohiiekaofkbaaDoor
