/- Plain law: a sign of so many bytes begins so just if the package's own way says it has or lacks just so many. -/
import Derived.Test.YtlpocahflolmpaaU4s1
import Derived.Test.YtlpocahflolmpaaU4s2
import Derived.Test.YtlpocahflolmpaaU4s3
import Derived.Test.YtlpocahflolmpaaU4s4
namespace Go.Proofs.Ytlpocahflolmpaa
set_option linter.unusedVariables false
set_option linter.unusedSimpArgs false
open Go.RowKit

theorem begins_any (s : ByteArray) (z : Int) (w : World) (hs : s.size ≤ 140737488351232) (hp : 0 < s.size) (z0 : 1 ≤ z) (z1 : z ≤ 4) :
    Calls Try.prog 34 #[.string s, .int .i64 z] w (fun e w' => e = .returned (.bool (begT z (ns s))) ∧ Below w.heap.size w w') := by
  rcases (show z = 1 ∨ z = 2 ∨ z = 3 ∨ z = 4 by omega) with rfl | rfl | rfl | rfl
  · exact begins_1 s w hs hp
  · exact begins_2 s w hs hp
  · exact begins_3 s w hs hp
  · exact begins_4 s w hs hp

theorem isB_iff (n : Int) : isB n = true ↔ 0 ≤ n ∧ n ≤ 1114111 ∧ (n < 55296 ∨ 57343 < n) := by simp [isB]

/-- the sign behind its first byte, written out -/
theorem sgnR_cons (b : Int) (t : List Int) : sgnR (b :: t) = if (leadR b).2.2.2 then sgnG (leadR b).1 (leadR b).2.1 (leadR b).2.2.1 1 t else (0, 0, false) := rfl

theorem any_iff (n p least most : Int) : anyB n p least most = true ↔
    (n * p < least ∧ ((¬ (55296 ≤ least ∧ least ≤ 57343) ∧ least ≤ n * p + p - 1 ∧ least ≤ most - 1) ∨ ((55296 ≤ least ∧ least ≤ 57343) ∧ 57344 ≤ n * p + p - 1 ∧ 57344 ≤ most - 1))) ∨
    (least ≤ n * p ∧ ((¬ (55296 ≤ n * p ∧ n * p ≤ 57343) ∧ n * p ≤ n * p + p - 1 ∧ n * p ≤ most - 1) ∨ ((55296 ≤ n * p ∧ n * p ≤ 57343) ∧ 57344 ≤ n * p + p - 1 ∧ 57344 ≤ most - 1))) := by
  simp only [anyB, decide_eq_true_iff]
  generalize n * p = q
  by_cases c1 : q < least
  · simp only [if_pos c1]
    by_cases c3 : 55296 ≤ least ∧ least ≤ 57343
    · simp only [if_pos c3]
      split <;> omega
    · simp only [if_neg c3]
      split <;> omega
  · simp only [if_neg c1]
    by_cases c3 : 55296 ≤ q ∧ q ≤ 57343
    · simp only [if_pos c3]
      split <;> omega
    · simp only [if_neg c3]
      split <;> omega

theorem begG_iff (head room least most : Int) (k : Nat) (a : Int) (t : List Int) : begG head room least most k (a :: t) = true ↔ head ≤ a ∧ a < head + room ∧ bl least most k (a - head) t = true := by
  simp only [begG]
  split
  · simp; omega
  · constructor
    · intro h; exact ⟨by omega, by omega, h⟩
    · intro h; exact h.2.2
theorem bl_zero (least most n : Int) (l : List Int) : bl least most 0 n l = true ↔ least ≤ n ∧ n < most ∧ 0 ≤ n ∧ n ≤ 1114111 ∧ (n < 55296 ∨ 57343 < n) := by
  cases l <;> simp [bl, isB, and_assoc]
theorem bl_nil (least most n : Int) (k : Nat) : bl least most (k + 1) n [] = anyB n (64 ^ (k + 1)) least most := rfl
theorem bl_cons (least most n : Int) (k : Nat) (x : Int) (t : List Int) : bl least most (k + 1) n (x :: t) = true ↔ 128 ≤ x ∧ x ≤ 191 ∧ bl least most k (64 * n + (x - 128)) t = true := by
  simp only [bl]
  split
  · simp; omega
  · constructor
    · intro h; exact ⟨by omega, by omega, h⟩
    · intro h; exact h.2.2

/-- it has and lacks so many together -/
def SP (z : Int) (r : Int × Int × Bool) : Prop := r.2.2 = true ∧ r.1 + r.2.1 = z
theorem SP_nil (z m lo hi n : Int) : SP z (sgnG m lo hi n []) ↔ m + 1 = z := by simp [SP, sgnG]; omega
theorem SP_cons (z m lo hi n x : Int) (t : List Int) : SP z (sgnG m lo hi n (x :: t)) ↔ (m < n ∧ m + 1 = z) ∨ (n ≤ m ∧ ¬ (n = 1 ∧ (x < lo ∨ hi < x)) ∧ 128 ≤ x ∧ x < 192 ∧ SP z (sgnG m lo hi (n + 1) t)) := by
  simp only [sgnG]
  split
  · simp only [SP, true_and]; omega
  · split
    · constructor
      · intro h; simp [SP] at h
      · intro h; omega
    · constructor
      · intro h; exact .inr ⟨by omega, by omega, by omega, by omega, h⟩
      · intro h
        rcases h with h | h
        · omega
        · exact h.2.2.2.2
theorem SP_end (z m lo hi n : Int) (l : List Int) (h : m < n) : SP z (sgnG m lo hi n l) ↔ m + 1 = z := by
  cases l with
  | nil => exact SP_nil z m lo hi n
  | cons x t => rw [SP_cons]; omega
theorem SP_none (z : Int) : SP z (0, 0, false) ↔ False := by simp [SP]

set_option maxHeartbeats 4000000 in
theorem beg1 (l : List Int) (hl : ∀ x ∈ l, 0 ≤ x ∧ x < 256) : begG 0 128 0 128 0 l = true ↔ SP 1 (sgnR l) := by
  cases l with
  | nil => simp [begG, sgnR, SP]
  | cons b t =>
    have hb := hl b (by simp)
    rw [sgnR_cons, begG_iff]
    rcases lead_cases b with ⟨h, e⟩ | ⟨h, e⟩ | ⟨h, e⟩ | ⟨h, e⟩ | ⟨h, e⟩ | ⟨h, e⟩ | ⟨h, e⟩ | ⟨h, e⟩ | ⟨h, e⟩
    all_goals
      rw [e]
      simp only [if_true, Bool.false_eq_true, if_false]
      rcases t with _ | ⟨c, _ | ⟨d, _ | ⟨x, u⟩⟩⟩
      all_goals
        simp only [bl_zero, bl_nil, bl_cons, any_iff, SP_nil, SP_cons, SP_none]
        try rw [SP_end _ _ _ _ _ _ (by decide)]
        try simp only [true_and, iff_false]
        omega

set_option maxHeartbeats 4000000 in
theorem beg2 (l : List Int) (hl : ∀ x ∈ l, 0 ≤ x ∧ x < 256) : begG 192 32 128 2048 1 l = true ↔ SP 2 (sgnR l) := by
  cases l with
  | nil => simp [begG, sgnR, SP]
  | cons b t =>
    have hb := hl b (by simp)
    rw [sgnR_cons, begG_iff]
    rcases lead_cases b with ⟨h, e⟩ | ⟨h, e⟩ | ⟨h, e⟩ | ⟨h, e⟩ | ⟨h, e⟩ | ⟨h, e⟩ | ⟨h, e⟩ | ⟨h, e⟩ | ⟨h, e⟩
    all_goals
      rw [e]
      simp only [if_true, Bool.false_eq_true, if_false]
      rcases t with _ | ⟨c, _ | ⟨d, _ | ⟨x, u⟩⟩⟩
      all_goals
        simp only [bl_zero, bl_nil, bl_cons, any_iff, SP_nil, SP_cons, SP_none]
        try rw [SP_end _ _ _ _ _ _ (by decide)]
        try simp only [true_and, iff_false]
        omega

set_option maxHeartbeats 4000000 in
theorem beg3 (l : List Int) (hl : ∀ x ∈ l, 0 ≤ x ∧ x < 256) : begG 224 16 2048 65536 2 l = true ↔ SP 3 (sgnR l) := by
  cases l with
  | nil => simp [begG, sgnR, SP]
  | cons b t =>
    have hb := hl b (by simp)
    rw [sgnR_cons, begG_iff]
    rcases lead_cases b with ⟨h, e⟩ | ⟨h, e⟩ | ⟨h, e⟩ | ⟨h, e⟩ | ⟨h, e⟩ | ⟨h, e⟩ | ⟨h, e⟩ | ⟨h, e⟩ | ⟨h, e⟩
    all_goals
      rw [e]
      simp only [if_true, Bool.false_eq_true, if_false]
      rcases t with _ | ⟨c, _ | ⟨d, _ | ⟨x, u⟩⟩⟩
      all_goals
        simp only [bl_zero, bl_nil, bl_cons, any_iff, SP_nil, SP_cons, SP_none]
        try rw [SP_end _ _ _ _ _ _ (by decide)]
        try simp only [true_and, iff_false]
        omega

set_option maxHeartbeats 4000000 in
theorem beg4 (l : List Int) (hl : ∀ x ∈ l, 0 ≤ x ∧ x < 256) : begG 240 8 65536 1114112 3 l = true ↔ SP 4 (sgnR l) := by
  cases l with
  | nil => simp [begG, sgnR, SP]
  | cons b t =>
    have hb := hl b (by simp)
    rw [sgnR_cons, begG_iff]
    rcases lead_cases b with ⟨h, e⟩ | ⟨h, e⟩ | ⟨h, e⟩ | ⟨h, e⟩ | ⟨h, e⟩ | ⟨h, e⟩ | ⟨h, e⟩ | ⟨h, e⟩ | ⟨h, e⟩
    all_goals
      rw [e]
      simp only [if_true, Bool.false_eq_true, if_false]
      rcases t with _ | ⟨c, _ | ⟨d, _ | ⟨x, u⟩⟩⟩
      all_goals
        simp only [bl_zero, bl_nil, bl_cons, any_iff, SP_nil, SP_cons, SP_none]
        try rw [SP_end _ _ _ _ _ _ (by decide)]
        try simp only [true_and, iff_false]
        omega

end Go.Proofs.Ytlpocahflolmpaa
