/- Some texts of this seat in one. -/
import Derived.Test.YtiohiiekaofkbaaB0
import Derived.Lib.SlBytesConst
import Derived.Lib.IndexBytes
/- Texts, byte by byte: what a first byte tells; the sign with which bytes begin (the package's own way). -/
namespace Go.Proofs.Ytiohiiekaofkbaa
set_option linter.unusedVariables false
set_option linter.unusedSimpArgs false
open Go.RowKit

/-- what a first byte tells: how many follow, from which to which the next one goes -/
def leadT (b : Int) : Option (Int × Int × Int) :=
  if b < 128 then some (0, 0, 0) else if 194 ≤ b ∧ b ≤ 223 then some (1, 128, 191) else if b = 224 then some (2, 160, 191) else if b = 237 then some (2, 128, 159)
  else if 225 ≤ b ∧ b ≤ 239 then some (2, 128, 191) else if b = 240 then some (3, 144, 191) else if 241 ≤ b ∧ b ≤ 243 then some (3, 128, 191) else if b = 244 then some (3, 128, 143) else none
def leadR (b : Int) : Int × Int × Int × Bool := match leadT b with | some (m, lo, hi) => (m, lo, hi, true) | none => (0, 0, 0, false)

theorem lead_walk (b : Int) (w : World) (h0 : 0 ≤ b) (h1 : b < 256) :
    Calls Try.prog 45 #[.int .u8 b] w (fun e w' => e = .returned (.tuple #[.int .i64 (leadR b).1, .int .u8 (leadR b).2.1, .int .u8 (leadR b).2.2.1, .bool (leadR b).2.2.2]) ∧ w = w') := by
  have hc : (b < 128) ∨ (194 ≤ b ∧ b ≤ 223) ∨ (b = 224) ∨ (b = 237) ∨ ((225 ≤ b ∧ b ≤ 239) ∧ ¬ b = 237) ∨ (b = 240) ∨ (241 ≤ b ∧ b ≤ 243) ∨ (b = 244) ∨ ((128 ≤ b ∧ b < 194) ∨ 244 < b) := by omega
  rcases hc with h | h | h | h | h | h | h | h | h
  · have hv : leadR b = (0, 0, 0, true) := by
      unfold leadR leadT
      rw [if_pos (by omega)]
    rw [hv]
    have q1 : decide (b < 128) = true := by simpa using h
    have e224 : (b == 224) = false := by simp; omega
    have e237 : (b == 237) = false := by simp; omega
    have e240 : (b == 240) = false := by simp; omega
    have e244 : (b == 244) = false := by simp; omega
    clear hv
    go_enter Try.func45, Try.ntmps45
    go_wp2
    all_goals
      first
        | (refine bodyPost_ret (v := .tuple #[.int .i64 0, .int .u8 0, .int .u8 0, .bool true]) ?_ rfl ⟨rfl, rfl⟩; simp [results, Try.results45, go_sem]; done)
        | (exfalso; simp_all; omega)
        | trace_state
  · have hv : leadR b = (1, 128, 191, true) := by
      unfold leadR leadT
      rw [if_neg (by omega), if_pos (by omega)]
    rw [hv]
    have q1 : decide (b < 128) = false := by simp; omega
    have e224 : (b == 224) = false := by simp; omega
    have e237 : (b == 237) = false := by simp; omega
    have e240 : (b == 240) = false := by simp; omega
    have e244 : (b == 244) = false := by simp; omega
    clear hv
    go_enter Try.func45, Try.ntmps45
    go_wp2
    all_goals
      first
        | (refine bodyPost_ret (v := .tuple #[.int .i64 1, .int .u8 128, .int .u8 191, .bool true]) ?_ rfl ⟨rfl, rfl⟩; simp [results, Try.results45, go_sem]; done)
        | (exfalso; simp_all; omega)
        | trace_state
  · have hv : leadR b = (2, 160, 191, true) := by
      unfold leadR leadT
      rw [if_neg (by omega), if_neg (by omega), if_pos (by omega)]
    rw [hv]
    have q1 : decide (b < 128) = false := by simp; omega
    have e224 : (b == 224) = true := by simp; omega
    have e237 : (b == 237) = false := by simp; omega
    have e240 : (b == 240) = false := by simp; omega
    have e244 : (b == 244) = false := by simp; omega
    clear hv
    go_enter Try.func45, Try.ntmps45
    go_wp2
    all_goals
      first
        | (refine bodyPost_ret (v := .tuple #[.int .i64 2, .int .u8 160, .int .u8 191, .bool true]) ?_ rfl ⟨rfl, rfl⟩; simp [results, Try.results45, go_sem]; done)
        | (exfalso; simp_all; omega)
        | trace_state
  · have hv : leadR b = (2, 128, 159, true) := by
      unfold leadR leadT
      rw [if_neg (by omega), if_neg (by omega), if_neg (by omega), if_pos (by omega)]
    rw [hv]
    have q1 : decide (b < 128) = false := by simp; omega
    have e224 : (b == 224) = false := by simp; omega
    have e237 : (b == 237) = true := by simp; omega
    have e240 : (b == 240) = false := by simp; omega
    have e244 : (b == 244) = false := by simp; omega
    clear hv
    go_enter Try.func45, Try.ntmps45
    go_wp2
    all_goals
      first
        | (refine bodyPost_ret (v := .tuple #[.int .i64 2, .int .u8 128, .int .u8 159, .bool true]) ?_ rfl ⟨rfl, rfl⟩; simp [results, Try.results45, go_sem]; done)
        | (exfalso; simp_all; omega)
        | trace_state
  · have hv : leadR b = (2, 128, 191, true) := by
      unfold leadR leadT
      rw [if_neg (by omega), if_neg (by omega), if_neg (by omega), if_neg (by omega), if_pos (by omega)]
    rw [hv]
    have q1 : decide (b < 128) = false := by simp; omega
    have e224 : (b == 224) = false := by simp; omega
    have e237 : (b == 237) = false := by simp; omega
    have e240 : (b == 240) = false := by simp; omega
    have e244 : (b == 244) = false := by simp; omega
    clear hv
    go_enter Try.func45, Try.ntmps45
    go_wp2
    all_goals
      first
        | (refine bodyPost_ret (v := .tuple #[.int .i64 2, .int .u8 128, .int .u8 191, .bool true]) ?_ rfl ⟨rfl, rfl⟩; simp [results, Try.results45, go_sem]; done)
        | (exfalso; simp_all; omega)
        | trace_state
  · have hv : leadR b = (3, 144, 191, true) := by
      unfold leadR leadT
      rw [if_neg (by omega), if_neg (by omega), if_neg (by omega), if_neg (by omega), if_neg (by omega), if_pos (by omega)]
    rw [hv]
    have q1 : decide (b < 128) = false := by simp; omega
    have e224 : (b == 224) = false := by simp; omega
    have e237 : (b == 237) = false := by simp; omega
    have e240 : (b == 240) = true := by simp; omega
    have e244 : (b == 244) = false := by simp; omega
    clear hv
    go_enter Try.func45, Try.ntmps45
    go_wp2
    all_goals
      first
        | (refine bodyPost_ret (v := .tuple #[.int .i64 3, .int .u8 144, .int .u8 191, .bool true]) ?_ rfl ⟨rfl, rfl⟩; simp [results, Try.results45, go_sem]; done)
        | (exfalso; simp_all; omega)
        | trace_state
  · have hv : leadR b = (3, 128, 191, true) := by
      unfold leadR leadT
      rw [if_neg (by omega), if_neg (by omega), if_neg (by omega), if_neg (by omega), if_neg (by omega), if_neg (by omega), if_pos (by omega)]
    rw [hv]
    have q1 : decide (b < 128) = false := by simp; omega
    have e224 : (b == 224) = false := by simp; omega
    have e237 : (b == 237) = false := by simp; omega
    have e240 : (b == 240) = false := by simp; omega
    have e244 : (b == 244) = false := by simp; omega
    clear hv
    go_enter Try.func45, Try.ntmps45
    go_wp2
    all_goals
      first
        | (refine bodyPost_ret (v := .tuple #[.int .i64 3, .int .u8 128, .int .u8 191, .bool true]) ?_ rfl ⟨rfl, rfl⟩; simp [results, Try.results45, go_sem]; done)
        | (exfalso; simp_all; omega)
        | trace_state
  · have hv : leadR b = (3, 128, 143, true) := by
      unfold leadR leadT
      rw [if_neg (by omega), if_neg (by omega), if_neg (by omega), if_neg (by omega), if_neg (by omega), if_neg (by omega), if_neg (by omega), if_pos (by omega)]
    rw [hv]
    have q1 : decide (b < 128) = false := by simp; omega
    have e224 : (b == 224) = false := by simp; omega
    have e237 : (b == 237) = false := by simp; omega
    have e240 : (b == 240) = false := by simp; omega
    have e244 : (b == 244) = true := by simp; omega
    clear hv
    go_enter Try.func45, Try.ntmps45
    go_wp2
    all_goals
      first
        | (refine bodyPost_ret (v := .tuple #[.int .i64 3, .int .u8 128, .int .u8 143, .bool true]) ?_ rfl ⟨rfl, rfl⟩; simp [results, Try.results45, go_sem]; done)
        | (exfalso; simp_all; omega)
        | trace_state
  · have hv : leadR b = (0, 0, 0, false) := by
      unfold leadR leadT
      rw [if_neg (by omega), if_neg (by omega), if_neg (by omega), if_neg (by omega), if_neg (by omega), if_neg (by omega), if_neg (by omega), if_neg (by omega)]
    rw [hv]
    have q1 : decide (b < 128) = false := by simp; omega
    have e224 : (b == 224) = false := by simp; omega
    have e237 : (b == 237) = false := by simp; omega
    have e240 : (b == 240) = false := by simp; omega
    have e244 : (b == 244) = false := by simp; omega
    clear hv
    go_enter Try.func45, Try.ntmps45
    go_wp2
    all_goals
      first
        | (refine bodyPost_ret (v := .tuple #[.int .i64 0, .int .u8 0, .int .u8 0, .bool false]) ?_ rfl ⟨rfl, rfl⟩; simp [results, Try.results45, go_sem]; done)
        | (exfalso; simp_all; omega)
        | trace_state

theorem lead_cases (b : Int) : ((b < 128) ∧ leadR b = (0, 0, 0, true)) ∨ ((194 ≤ b ∧ b ≤ 223) ∧ leadR b = (1, 128, 191, true)) ∨ ((b = 224) ∧ leadR b = (2, 160, 191, true)) ∨ ((b = 237) ∧ leadR b = (2, 128, 159, true)) ∨ (((225 ≤ b ∧ b ≤ 239) ∧ ¬ b = 237) ∧ leadR b = (2, 128, 191, true)) ∨ ((b = 240) ∧ leadR b = (3, 144, 191, true)) ∨ ((241 ≤ b ∧ b ≤ 243) ∧ leadR b = (3, 128, 191, true)) ∨ ((b = 244) ∧ leadR b = (3, 128, 143, true)) ∨ (((128 ≤ b ∧ b < 194) ∨ 244 < b) ∧ leadR b = (0, 0, 0, false)) := by
  have hc : (b < 128) ∨ (194 ≤ b ∧ b ≤ 223) ∨ (b = 224) ∨ (b = 237) ∨ ((225 ≤ b ∧ b ≤ 239) ∧ ¬ b = 237) ∨ (b = 240) ∨ (241 ≤ b ∧ b ≤ 243) ∨ (b = 244) ∨ ((128 ≤ b ∧ b < 194) ∨ 244 < b) := by omega
  rcases hc with h | h | h | h | h | h | h | h | h
  · exact .inl ⟨h, by unfold leadR leadT; rw [if_pos (by omega)]⟩
  · exact .inr (.inl ⟨h, by unfold leadR leadT; rw [if_neg (by omega), if_pos (by omega)]⟩)
  · exact .inr (.inr (.inl ⟨h, by unfold leadR leadT; rw [if_neg (by omega), if_neg (by omega), if_pos (by omega)]⟩))
  · exact .inr (.inr (.inr (.inl ⟨h, by unfold leadR leadT; rw [if_neg (by omega), if_neg (by omega), if_neg (by omega), if_pos (by omega)]⟩)))
  · exact .inr (.inr (.inr (.inr (.inl ⟨h, by unfold leadR leadT; rw [if_neg (by omega), if_neg (by omega), if_neg (by omega), if_neg (by omega), if_pos (by omega)]⟩))))
  · exact .inr (.inr (.inr (.inr (.inr (.inl ⟨h, by unfold leadR leadT; rw [if_neg (by omega), if_neg (by omega), if_neg (by omega), if_neg (by omega), if_neg (by omega), if_pos (by omega)]⟩)))))
  · exact .inr (.inr (.inr (.inr (.inr (.inr (.inl ⟨h, by unfold leadR leadT; rw [if_neg (by omega), if_neg (by omega), if_neg (by omega), if_neg (by omega), if_neg (by omega), if_neg (by omega), if_pos (by omega)]⟩))))))
  · exact .inr (.inr (.inr (.inr (.inr (.inr (.inr (.inl ⟨h, by unfold leadR leadT; rw [if_neg (by omega), if_neg (by omega), if_neg (by omega), if_neg (by omega), if_neg (by omega), if_neg (by omega), if_neg (by omega), if_pos (by omega)]⟩)))))))
  · exact .inr (.inr (.inr (.inr (.inr (.inr (.inr (.inr (⟨h, by unfold leadR leadT; rw [if_neg (by omega), if_neg (by omega), if_neg (by omega), if_neg (by omega), if_neg (by omega), if_neg (by omega), if_neg (by omega), if_neg (by omega)]⟩))))))))

end Go.Proofs.Ytiohiiekaofkbaa

/- The sign with which bytes begin; how many bytes there must be more (the package's own way). -/
namespace Go.Proofs.Ytiohiiekaofkbaa
set_option linter.unusedVariables false
set_option linter.unusedSimpArgs false
open Go.RowKit

/-- a string's bytes -/
def ns (s : ByteArray) : List Int := s.data.toList.map (fun x => (x.toNat : Int))
theorem ns_len (s : ByteArray) : (ns s).length = s.size := by simp [ns]
theorem ns_get (s : ByteArray) (i : Nat) (h : i < s.size) : (ns s)[i]? = some (s[i].toNat : Int) := by
  simp only [ns, List.getElem?_map]
  rw [List.getElem?_eq_getElem (by simpa using h)]
  rfl
theorem ns_byte (s : ByteArray) : ∀ x ∈ ns s, 0 ≤ x ∧ x < 256 := by
  intro x hx
  simp only [ns, List.mem_map] at hx
  obtain ⟨y, _, rfl⟩ := hx
  have := y.toNat_lt
  omega
theorem ns_drop (s : ByteArray) (i : Nat) (h : i < s.size) : (ns s).drop i = (s[i].toNat : Int) :: (ns s).drop (i + 1) := by
  have hg := ns_get s i h
  have hl : i < (ns s).length := by rw [ns_len]; exact h
  rw [List.drop_eq_getElem_cons hl]
  rw [List.getElem?_eq_getElem hl] at hg
  rw [Option.some.inj hg]

/-- behind n bytes of a sign -/
def sgnG (m lo hi : Int) : Int → List Int → Int × Int × Bool
  | n, [] => (n, m + 1 - n, true)
  | n, x :: t => if m < n then (n, m + 1 - n, true) else if n = 1 ∧ (x < lo ∨ hi < x) ∨ ¬ (128 ≤ x ∧ x < 192) then (0, 0, false) else sgnG m lo hi (n + 1) t
/-- the sign with which bytes begin: how many bytes it has, how many it lacks -/
def sgnR : List Int → Int × Int × Bool
  | [] => (0, 0, false)
  | b :: t => if (leadR b).2.2.2 then sgnG (leadR b).1 (leadR b).2.1 (leadR b).2.2.1 1 t else (0, 0, false)

theorem and192 (x : Int) (h0 : 0 ≤ x) (h : x < 256) : bits .and .u8 x 192 = x / 64 * 64 := by
  obtain ⟨n, rfl⟩ : ∃ n : Nat, x = n := ⟨x.toNat, by omega⟩
  have hn : n < 256 := by omega
  have key : ∀ m : Fin 256, bits .and .u8 ((m.val : Nat) : Int) 192 = ((m.val : Nat) : Int) / 64 * 64 := by decide +kernel
  exact key ⟨n, hn⟩
theorem leadR_le (b : Int) : 0 ≤ (leadR b).1 ∧ (leadR b).1 ≤ 3 ∧ 0 ≤ (leadR b).2.1 ∧ (leadR b).2.1 ≤ 255 ∧ 0 ≤ (leadR b).2.2.1 ∧ (leadR b).2.2.1 ≤ 255 := by
  rcases lead_cases b with ⟨_, h⟩ | ⟨_, h⟩ | ⟨_, h⟩ | ⟨_, h⟩ | ⟨_, h⟩ | ⟨_, h⟩ | ⟨_, h⟩ | ⟨_, h⟩ | ⟨_, h⟩ <;> rw [h] <;> decide

set_option maxRecDepth 100000 in
set_option maxHeartbeats 4000000 in
theorem sign_walk (s : ByteArray) (w : World) (hs : s.size ≤ 140737488351232) (hp : 0 < s.size) :
    Calls Try.prog 42 #[.string s] w (fun e w' => e = .returned (.tuple #[.int .i64 (sgnR (ns s)).1, .int .i64 (sgnR (ns s)).2.1, .bool (sgnR (ns s)).2.2]) ∧ w = w') := by
  have hb0 : (0 : Int) ≤ (s[0].toNat : Int) := by omega
  have hb1 : ((s[0].toNat : Nat) : Int) < 256 := by have := s[0].toNat_lt; omega
  have hR : sgnR (ns s) = if (leadR (s[0].toNat : Int)).2.2.2 then sgnG (leadR (s[0].toNat : Int)).1 (leadR (s[0].toNat : Int)).2.1 (leadR (s[0].toNat : Int)).2.2.1 1 ((ns s).drop 1) else (0, 0, false) := by
    have := ns_drop s 0 hp
    rw [List.drop_zero] at this
    rw [this]
    simp [sgnR]
  have hl := lead_walk (s[0].toNat : Int)
  have hle := leadR_le (s[0].toNat : Int)
  rcases hx : leadR (s[0].toNat : Int) with ⟨m, lo, hi, is⟩
  rw [hx] at hR hl hle
  simp only at hR hl hle
  obtain ⟨m0, m1, lo0, lo1, hi0, hi1⟩ := hle
  have HL := hid hl
  have HR := hid hR
  clear hl hR hx
  cases is with
  | false =>
    go_enter Try.func42, Try.ntmps42
    go_wp2
    go_step3
    go_wp2_with (first | (go_at_call 45; ((with_reducible refine (HL.out _ hb0 hb1).mono ?_); rintro e w' ⟨rfl, rfl⟩)))
    try rw [Exit.noGoto_ret]
    refine bodyPost_ret (v := .tuple #[.int .i64 0, .int .i64 0, .bool false]) ?_ rfl ⟨by rw [HR.out]; rfl, rfl⟩
    simp [results, Try.results42, go_sem]
  | true =>
    go_enter Try.func42, Try.ntmps42
    go_wp2
    go_step3
    go_wp2_with (first | (go_at_call 45; ((with_reducible refine (HL.out _ hb0 hb1).mono ?_); rintro e w' ⟨rfl, rfl⟩)))
    go_step3
    go_wp2
    go_loopw [8] (fun v8 wr => ∃ k : Nat, 1 ≤ k ∧ (k : Int) ≤ m + 1 ∧ v8 = .int .i64 k ∧ k ≤ s.size ∧ Hid (sgnG m lo hi k ((ns s).drop k) = sgnR (ns s)) ∧ wr = w) (fun v8 _ => (m + 1 - intOf v8).toNat)
    case atStart => exact ⟨1, by omega, by omega, by go_num, hp, hid (by rw [HR.out]; rfl), rfl⟩
    case round =>
      obtain ⟨k, k1, k2, rfl, k3, HG, rfl⟩ := hrel
      by_cases hkm : (k : Int) ≤ m
      · by_cases hks : k < s.size
        · have hx0 : (0 : Int) ≤ (s[k].toNat : Int) := by omega
          have hx1 : ((s[k].toNat : Nat) : Int) < 256 := by have := s[k].toNat_lt; omega
          have ha := and192 (s[k].toNat : Int) hx0 hx1
          have HGX := hid (show (if m < (k : Int) then ((k : Int), m + 1 - (k : Int), true) else if (k : Int) = 1 ∧ ((s[k].toNat : Int) < lo ∨ hi < (s[k].toNat : Int)) ∨ ¬ (128 ≤ (s[k].toNat : Int) ∧ (s[k].toNat : Int) < 192) then (0, 0, false) else sgnG m lo hi ((k : Int) + 1) ((ns s).drop (k + 1))) = sgnR (ns s) by
            have h2 := HG.out; rw [ns_drop s k hks] at h2; simpa only [sgnG] using h2)
          obtain ⟨x, hx⟩ : ∃ x : Int, (s[k].toNat : Int) = x := ⟨_, rfl⟩
          rw [hx] at hx0 hx1 ha
          rw [hx] at HGX
          have hcs : (k = 1 ∧ x < lo) ∨ (k = 1 ∧ ¬ x < lo ∧ hi < x) ∨ (k = 1 ∧ ¬ x < lo ∧ ¬ hi < x ∧ ¬ (128 ≤ x ∧ x < 192)) ∨ (k = 1 ∧ ¬ x < lo ∧ ¬ hi < x ∧ (128 ≤ x ∧ x < 192)) ∨ (¬ k = 1 ∧ ¬ (128 ≤ x ∧ x < 192)) ∨ (¬ k = 1 ∧ (128 ≤ x ∧ x < 192)) := by omega
          rcases hcs with ⟨rfl, q2⟩ | ⟨rfl, q2, q3⟩ | ⟨rfl, q2, q3, q4⟩ | ⟨rfl, q2, q3, q4⟩ | ⟨q1, q4⟩ | ⟨q1, q4⟩
          · skip
            have HV := hid (show sgnR (ns s) = (0, 0, false) by rw [← HGX.out, if_neg (by omega), if_pos (by omega)])
            go_wp2
            try rw [Exit.noGoto_ret]
            refine bodyPost_ret (v := .tuple #[.int .i64 0, .int .i64 0, .bool false]) ?_ rfl ⟨by rw [HV.out], rfl⟩
            simp [results, Try.results42, go_sem]
          · skip
            have HV := hid (show sgnR (ns s) = (0, 0, false) by rw [← HGX.out, if_neg (by omega), if_pos (by omega)])
            go_wp2
            try rw [Exit.noGoto_ret]
            refine bodyPost_ret (v := .tuple #[.int .i64 0, .int .i64 0, .bool false]) ?_ rfl ⟨by rw [HV.out], rfl⟩
            simp [results, Try.results42, go_sem]
          · have e4 : (x / 64 * 64 != 128) = true := by simp; omega
            have HV := hid (show sgnR (ns s) = (0, 0, false) by rw [← HGX.out, if_neg (by omega), if_pos (by omega)])
            go_wp2
            try rw [Exit.noGoto_ret]
            refine bodyPost_ret (v := .tuple #[.int .i64 0, .int .i64 0, .bool false]) ?_ rfl ⟨by rw [HV.out], rfl⟩
            simp [results, Try.results42, go_sem]
          · have e4 : (x / 64 * 64 != 128) = false := by simp; omega
            have HV := hid (show sgnG m lo hi (((1 : Nat) : Int) + 1) ((ns s).drop (1 + 1)) = sgnR (ns s) by rw [← HGX.out, if_neg (by omega), if_neg (by omega)])
            go_wp2
            go_roundw
            case rel => exact ⟨1 + 1, by omega, by omega, by go_num, by omega, hid (by rw [← HV.out]; push_cast; rfl), trivial⟩
            case measure => simp [intOf]; omega
          · have e1 : ((k : Int) == 1) = false := by simp; omega
            have e4 : (x / 64 * 64 != 128) = true := by simp; omega
            have HV := hid (show sgnR (ns s) = (0, 0, false) by rw [← HGX.out, if_neg (by omega), if_pos (by omega)])
            go_wp2
            try rw [Exit.noGoto_ret]
            refine bodyPost_ret (v := .tuple #[.int .i64 0, .int .i64 0, .bool false]) ?_ rfl ⟨by rw [HV.out], rfl⟩
            simp [results, Try.results42, go_sem]
          · have e1 : ((k : Int) == 1) = false := by simp; omega
            have e4 : (x / 64 * 64 != 128) = false := by simp; omega
            have HV := hid (show sgnG m lo hi ((k : Int) + 1) ((ns s).drop (k + 1)) = sgnR (ns s) by rw [← HGX.out, if_neg (by omega), if_neg (by omega)])
            go_wp2
            go_roundw
            case rel => exact ⟨k + 1, by omega, by omega, by go_num, by omega, hid (by rw [← HV.out]; push_cast; rfl), trivial⟩
            case measure => simp [intOf]; omega
        · have HV := hid (show sgnR (ns s) = ((k : Int), m + 1 - (k : Int), true) by rw [← HG.out, List.drop_eq_nil_of_le (by rw [ns_len]; omega)]; rfl)
          go_wp2
          try rw [Exit.noGoto_ret]
          refine bodyPost_ret (v := .tuple #[.int .i64 k, .int .i64 (m + 1 - k), .bool true]) ?_ rfl ⟨by rw [HV.out], rfl⟩
          simp [results, Try.results42, go_sem]
      · have HV := hid (show sgnR (ns s) = ((k : Int), m + 1 - (k : Int), true) by rw [← HG.out]; cases hd : (ns s).drop k with
          | nil => rfl
          | cons a t => simp only [sgnG]; rw [if_pos (by omega)])
        go_wp2
        try rw [Exit.noGoto_ret]
        refine bodyPost_ret (v := .tuple #[.int .i64 k, .int .i64 (m + 1 - k), .bool true]) ?_ rfl ⟨by rw [HV.out], rfl⟩
        simp [results, Try.results42, go_sem]

end Go.Proofs.Ytiohiiekaofkbaa

/- How many bytes there must be more; is it a text? (the package's own way) -/
namespace Go.Proofs.Ytiohiiekaofkbaa
set_option linter.unusedVariables false
set_option linter.unusedSimpArgs false
open Go.RowKit

/-- how many bytes there must be more; false: it is the front of no text ('f': how many signs are looked at) -/
def needF : Nat → List Int → Int × Bool
  | 0, _ => (0, true)
  | f + 1, l => if l = [] then (0, true) else if (sgnR l).2.2 = false ∨ 0 < (sgnR l).2.1 then ((sgnR l).2.1, (sgnR l).2.2) else needF f (l.drop (sgnR l).1.toNat)
def need (l : List Int) : Int × Bool := needF l.length l

theorem sgnG_le (m lo hi : Int) (l : List Int) : ∀ n : Int, n ≤ m + 1 → (sgnG m lo hi n l).2.2 = true → n ≤ (sgnG m lo hi n l).1 ∧ (sgnG m lo hi n l).1 ≤ m + 1 ∧ (sgnG m lo hi n l).1 ≤ n + l.length ∧ (sgnG m lo hi n l).2.1 = m + 1 - (sgnG m lo hi n l).1 := by
  induction l with
  | nil => intro n h _; simp [sgnG]; omega
  | cons x t ih =>
    intro n h ht
    simp only [sgnG] at ht ⊢
    split at ht
    · rename_i h1; rw [if_pos h1]; simp; omega
    · rename_i h1
      split at ht
      · simp at ht
      · rename_i h2
        rw [if_neg h1, if_neg h2]
        have := ih (n + 1) (by omega) ht
        simp only [List.length_cons]
        push_cast
        omega
theorem sgnR_le (l : List Int) (h : (sgnR l).2.2 = true) : 1 ≤ (sgnR l).1 ∧ (sgnR l).1 ≤ 4 ∧ (sgnR l).1 ≤ l.length ∧ 0 ≤ (sgnR l).2.1 ∧ (sgnR l).2.1 ≤ 3 := by
  cases l with
  | nil => simp [sgnR] at h
  | cons b t =>
    have hl := leadR_le b
    simp only [sgnR] at h ⊢
    split at h
    · rename_i hb
      rw [if_pos hb]
      have := sgnG_le _ _ _ t 1 (by omega) h
      simp only [List.length_cons]
      push_cast
      omega
    · simp at h
theorem sgnG_neg (m lo hi : Int) (l : List Int) : ∀ n : Int, n ≤ m + 1 → 0 ≤ n → (sgnG m lo hi n l).2.2 = false → (sgnG m lo hi n l) = (0, 0, false) := by
  induction l with
  | nil => intro n h h0 ht; simp [sgnG] at ht
  | cons x t ih =>
    intro n h h0 ht
    simp only [sgnG] at ht ⊢
    split at ht
    · simp at ht
    · rename_i h1
      split at ht
      · rename_i h2; rw [if_neg h1, if_pos h2]
      · rename_i h2
        rw [if_neg h1, if_neg h2]
        exact ih (n + 1) (by omega) (by omega) ht
theorem sgnR_neg (l : List Int) (h : (sgnR l).2.2 = false) : sgnR l = (0, 0, false) := by
  cases l with
  | nil => rfl
  | cons b t =>
    have hl := leadR_le b
    simp only [sgnR] at h ⊢
    split at h
    · rename_i hb
      rw [if_pos hb]
      exact sgnG_neg _ _ _ t 1 (by omega) (by omega) h
    · rename_i hb; rw [if_neg hb]
theorem sgnR_bd (l : List Int) : 0 ≤ (sgnR l).1 ∧ (sgnR l).1 ≤ 4 ∧ (sgnR l).1 ≤ l.length ∧ 0 ≤ (sgnR l).2.1 ∧ (sgnR l).2.1 ≤ 3 := by
  cases h : (sgnR l).2.2 with
  | true => have := sgnR_le l h; omega
  | false => rw [sgnR_neg l h]; simp

theorem ns_extract (s : ByteArray) (k : Nat) (h : k ≤ s.size) : ns (s.extract k s.size) = (ns s).drop k := by
  unfold ns
  rw [Lib.extract_data, List.take_of_length_le (by simp), List.map_drop]
theorem empty_yes {t : ByteArray} (h : t.size = 0) : t.toList = [] ∧ (!t.toList.isEmpty) = false := by
  have e : t.data.toList = [] := by
    have : t.data.toList.length = 0 := by simpa using h
    exact List.eq_nil_of_length_eq_zero this
  rw [Lib.toList_data, e]; simp
theorem empty_no {t : ByteArray} (h : 0 < t.size) : (!t.toList.isEmpty) = true := by
  rw [Lib.toList_data]
  cases hd : t.data.toList with
  | nil => have : t.data.toList.length = t.size := by simp
           rw [hd] at this; simp at this; omega
  | cons a l => rfl

set_option maxHeartbeats 4000000 in
theorem need_walk (s : ByteArray) (w : World) (hs : s.size ≤ 140737488351232) :
    Calls Try.prog 38 #[.string s] w (fun e w' => e = .returned (.tuple #[.int .i64 (need (ns s)).1, .bool (need (ns s)).2]) ∧ w = w') := by
  go_enter Try.func38, Try.ntmps38
  go_wp2
  go_loopw [0] (fun v0 wr => ∃ (t : ByteArray) (f : Nat), v0 = .string t ∧ t.size ≤ 140737488351232 ∧ t.size ≤ f ∧ Hid (needF f (ns t) = need (ns s)) ∧ wr = w) (fun v0 _ => match v0 with | .string t => t.size | _ => 0)
  case atStart => exact ⟨s, s.size, rfl, hs, Nat.le_refl _, hid (by unfold need; rw [ns_len]), rfl⟩
  case round =>
    obtain ⟨t, f, rfl, ht, hf, HN, rfl⟩ := hrel
    rcases Nat.eq_zero_or_pos t.size with hz | hp
    · have HV := hid (show need (ns s) = (0, true) by
        rw [← HN.out]
        have : ns t = [] := List.eq_nil_of_length_eq_zero (by rw [ns_len]; exact hz)
        cases f <;> simp [needF, this])
      obtain ⟨q1, q2⟩ := empty_yes hz
      clear hz
      go_wp2
      refine bodyPost_ret (v := .tuple #[.int .i64 0, .bool true]) ?_ rfl ⟨by rw [HV.out], rfl⟩
      simp [results, Try.results38, go_sem]
    · have hb := sgnR_bd (ns t)
      obtain ⟨f, rfl⟩ : ∃ g, f = g + 1 := ⟨f - 1, by omega⟩
      have HN2 := hid (show (if (sgnR (ns t)).2.2 = false ∨ 0 < (sgnR (ns t)).2.1 then ((sgnR (ns t)).2.1, (sgnR (ns t)).2.2) else needF f ((ns t).drop (sgnR (ns t)).1.toNat)) = need (ns s) by
        have h2 := HN.out
        rw [needF, if_neg (fun h => by have q : (ns t).length = 0 := (by rw [h]; rfl); rw [ns_len] at q; omega)] at h2
        exact h2)
      rw [ns_len] at hb
      have hpos := sgnR_le (ns t)
      have hs0 := sign_walk t wr ht hp
      rcases hR : sgnR (ns t) with ⟨h, k, is⟩
      rw [hR] at hs0 hb HN2 hpos
      simp only at hs0 hb HN2 hpos
      obtain ⟨hb0, hb1, hb2, hb3, hb4⟩ := hb
      have HSW := hid hs0
      have q1 := empty_no hp
      clear hs0 hR
      cases is with
      | false =>
        have HV := hid (show need (ns s) = (k, false) by rw [← HN2.out]; simp)
        go_wp2_with (first | (go_at_call 42; ((with_reducible refine HSW.out.mono ?_); rintro e w' ⟨rfl, rfl⟩)))
        refine bodyPost_ret (v := .tuple #[.int .i64 k, .bool false]) ?_ rfl ⟨by rw [HV.out], rfl⟩
        simp [results, Try.results38, go_sem]
      | true =>
        have hpo := hpos rfl
        by_cases hk : 0 < k
        · have HV := hid (show need (ns s) = (k, true) by rw [← HN2.out]; simp [hk])
          go_wp2_with (first | (go_at_call 42; ((with_reducible refine HSW.out.mono ?_); rintro e w' ⟨rfl, rfl⟩)))
          refine bodyPost_ret (v := .tuple #[.int .i64 k, .bool true]) ?_ rfl ⟨by rw [HV.out], rfl⟩
          simp [results, Try.results38, go_sem]
        · have HV := hid (show needF f ((ns t).drop h.toNat) = need (ns s) by rw [← HN2.out, if_neg (by simp; omega)])
          have hsz : (t.extract h.toNat t.size).size = t.size - h.toNat := by simp
          have HSZ := hid hsz
          clear hsz hpos
          go_wp2_with (first | (go_at_call 42; ((with_reducible refine HSW.out.mono ?_); rintro e w' ⟨rfl, rfl⟩)))
          refine ⟨⟨_, f, rfl, by rw [HSZ.out]; omega, by rw [HSZ.out]; omega, hid (by rw [ns_extract t _ (by omega)]; exact HV.out), trivial⟩, ?_⟩
          show (t.extract h.toNat t.size).size < t.size
          rw [HSZ.out]
          omega

set_option maxHeartbeats 4000000 in
theorem valid_walk (s : ByteArray) (w : World) (hs : s.size ≤ 140737488351232) :
    Calls Try.prog 24 #[.string s] w (fun e w' => e = .returned (.bool ((need (ns s)).2 && (need (ns s)).1 == 0)) ∧ w = w') := by
  have hn := need_walk s w hs
  rcases hR : need (ns s) with ⟨k, is⟩
  rw [hR] at hn
  simp only at hn
  have HNW := hid hn
  clear hn hR
  go_enter Try.func24, Try.ntmps24
  go_wp2_with (first | (go_at_call 38; ((with_reducible refine HNW.out.mono ?_); rintro e w' ⟨rfl, rfl⟩)))
  all_goals
    go_ret
    refine ⟨ret_bool ?_, rfl⟩
    first | rfl | (simp [*]; done)

end Go.Proofs.Ytiohiiekaofkbaa

/- The reference: is there a sign of a number; is there a number with so many groups more; does a sign begin so. -/
namespace Go.Proofs.Ytiohiiekaofkbaa
set_option linter.unusedVariables false
set_option linter.unusedSimpArgs false
open Go.RowKit

def isB (n : Int) : Bool := decide (0 ≤ n ∧ n ≤ 1114111 ∧ (n < 55296 ∨ 57343 < n))
set_option maxHeartbeats 1000000 in
theorem is_walk (n : Int) (w : World) : Calls Try.prog 44 #[.int .i64 n] w (fun e w' => e = .returned (.bool (isB n)) ∧ Below w.heap.size w w') := by
  go_enter Try.func44, Try.ntmps44
  go_wp2
  all_goals
    go_ret
    exact ⟨ret_bool (by rw [Bool.eq_iff_iff]; simp [isB, *] <;> omega), (by repeat (first | exact Below.refl _ _ | assumption | refine Below.alloc ?_ (by first | exact Nat.le_refl _ | (simp; done) | (simp; omega) | omega) _ | refine Below.drew ?_ | refine Below.setCell ?_ (by first | exact Nat.le_refl _ | (simp; done) | (simp; omega) | omega) _ | refine below_call ?_ (by assumption) (by first | exact Nat.le_refl _ | (simp; done) | (simp; omega) | omega)))⟩

/-- is there a number with g groups of 6 bits more, from least on, below most? -/
def anyB (n p least most : Int) : Bool :=
  decide ((if 55296 ≤ (if n * p < least then least else n * p) ∧ (if n * p < least then least else n * p) ≤ 57343 then 57344 else (if n * p < least then least else n * p)) ≤ (if most ≤ n * p + p - 1 then most - 1 else n * p + p - 1))

set_option maxRecDepth 100000 in
set_option maxHeartbeats 4000000 in
theorem any_walk (n g least most : Int) (w : World) (n0 : 0 ≤ n) (n1 : n ≤ 10000000) (g0 : 1 ≤ g) (g1 : g ≤ 3) (l0 : 0 ≤ least) (l1 : least ≤ 2000000) (m0 : 1 ≤ most) (m1 : most ≤ 2000000) :
    Calls Try.prog 43 #[.int .i64 n, .int .i64 g, .int .i64 least, .int .i64 most] w (fun e w' => e = .returned (.bool (anyB n (64 ^ g.toNat) least most)) ∧ Below w.heap.size w w') := by
  go_enter Try.func43, Try.ntmps43
  go_wp2
  go_loopw [9, 10, 11] (fun v9 v10 v11 wr => ∃ (i lo hi : Int), v9 = .int .i64 lo ∧ v10 = .int .i64 hi ∧ v11 = .int .i64 i ∧ i ≤ g ∧ ((i = 0 ∧ lo = n ∧ hi = n) ∨ (i = 1 ∧ lo = n * 64 ∧ hi = n * 64 + 63) ∨ (i = 2 ∧ lo = n * 4096 ∧ hi = n * 4096 + 4095) ∨ (i = 3 ∧ lo = n * 262144 ∧ hi = n * 262144 + 262143)) ∧ wr = w) (fun _ _ v11 _ => (g - intOf v11).toNat)
  case atStart => exact ⟨0, n, n, rfl, rfl, rfl, by omega, .inl ⟨rfl, rfl, rfl⟩, rfl⟩
  case round =>
    obtain ⟨i, lo, hi, rfl, rfl, rfl, hi3, hrel, rfl⟩ := hrel
    by_cases hig : i < g
    · have HR := hid hrel
      have i0 : 0 ≤ i := by omega
      have i2 : i ≤ 3 := by omega
      have b0 : 0 ≤ lo := by omega
      have b1 : lo ≤ 10000000 * 4096 := by omega
      have b2 : 0 ≤ hi := by omega
      have b3 : hi ≤ 10000000 * 4096 + 4095 := by omega
      clear hrel
      go_wp2
      refine ⟨⟨_, _, _, rfl, rfl, rfl, by omega, ?_, trivial⟩, by simp [intOf]; omega⟩
      have := HR.out
      omega
    · have hig2 : i = g := by omega
      have HR := hid (show lo = n * 64 ^ g.toNat ∧ hi = n * 64 ^ g.toNat + 64 ^ g.toNat - 1 by
        rcases hrel with ⟨e, e1, e2⟩ | ⟨e, e1, e2⟩ | ⟨e, e1, e2⟩ | ⟨e, e1, e2⟩
        · omega
        · rw [show g.toNat = 1 by omega]; omega
        · rw [show g.toNat = 2 by omega]; omega
        · rw [show g.toNat = 3 by omega]; omega)
      clear hrel hig2
      go_wp2
      all_goals
        go_ret
        refine ⟨ret_bool ?_, (by repeat (first | exact Below.refl _ _ | assumption | refine Below.alloc ?_ (by first | exact Nat.le_refl _ | (simp; done) | (simp; omega) | omega) _ | refine Below.drew ?_ | refine Below.setCell ?_ (by first | exact Nat.le_refl _ | (simp; done) | (simp; omega) | omega) _ | refine below_call ?_ (by assumption) (by first | exact Nat.le_refl _ | (simp; done) | (simp; omega) | omega)))⟩
        simp only [anyB]
        rw [← HR.out.1, show lo + 64 ^ g.toNat - 1 = hi by have := HR.out.1; have := HR.out.2; omega, Bool.eq_iff_iff, decide_eq_true_iff, decide_eq_true_iff]
        by_cases c1 : lo < least
        · simp only [if_pos c1]
          by_cases c3 : 55296 ≤ least ∧ least ≤ 57343
          · simp only [if_pos c3]
            split <;> omega
          · simp only [if_neg c3]
            split <;> omega
        · simp only [if_neg c1]
          by_cases c3 : 55296 ≤ lo ∧ lo ≤ 57343
          · simp only [if_pos c3]
            split <;> omega
          · simp only [if_neg c3]
            split <;> omega

end Go.Proofs.Ytiohiiekaofkbaa
