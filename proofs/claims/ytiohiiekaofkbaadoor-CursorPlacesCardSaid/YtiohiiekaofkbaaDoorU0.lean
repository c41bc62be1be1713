/- Texts, byte by byte: what a first byte tells; the sign with which bytes begin (the package's own way). -/
import Derived.Test.YtiohiiekaofkbaaDoorB0
namespace Go.Proofs.YtiohiiekaofkbaaDoor
set_option linter.unusedVariables false
set_option linter.unusedSimpArgs false
open Go.RowKit

/-- what a first byte tells: how many follow, from which to which the next one goes -/
def leadT (b : Int) : Option (Int × Int × Int) :=
  if b < 128 then some (0, 0, 0) else if 194 ≤ b ∧ b ≤ 223 then some (1, 128, 191) else if b = 224 then some (2, 160, 191) else if b = 237 then some (2, 128, 159)
  else if 225 ≤ b ∧ b ≤ 239 then some (2, 128, 191) else if b = 240 then some (3, 144, 191) else if 241 ≤ b ∧ b ≤ 243 then some (3, 128, 191) else if b = 244 then some (3, 128, 143) else none
def leadR (b : Int) : Int × Int × Int × Bool := match leadT b with | some (m, lo, hi) => (m, lo, hi, true) | none => (0, 0, 0, false)

theorem lead_walk (b : Int) (w : World) (h0 : 0 ≤ b) (h1 : b < 256) :
    Calls Tryd.prog 169 #[.int .u8 b] w (fun e w' => e = .returned (.tuple #[.int .i64 (leadR b).1, .int .u8 (leadR b).2.1, .int .u8 (leadR b).2.2.1, .bool (leadR b).2.2.2]) ∧ w = w') := by
  have hc : (b < 128) ∨ (194 ≤ b ∧ b ≤ 223) ∨ (b = 224) ∨ (b = 237) ∨ ((225 ≤ b ∧ b ≤ 239) ∧ ¬ b = 237) ∨ (b = 240) ∨ (241 ≤ b ∧ b ≤ 243) ∨ (b = 244) ∨ ((128 ≤ b ∧ b < 194) ∨ 244 < b) := by omega
  rcases hc with h | h | h | h | h | h | h | h | h
  · have hv : leadR b = (0, 0, 0, true) := by
      unfold leadR leadT
      rw [if_pos (by omega)]
    rw [hv]
    have q1 : decide (b < 128) = true := by simpa using h
    have e224 : (b == 224) = false := by simp; omega
    have e237 : (b == 237) = false := by simp; omega
    have e240 : (b == 240) = false := by simp; omega
    have e244 : (b == 244) = false := by simp; omega
    clear hv
    go_enter Tryd.func169, Tryd.ntmps169
    go_wp2
    all_goals
      first
        | (refine bodyPost_ret (v := .tuple #[.int .i64 0, .int .u8 0, .int .u8 0, .bool true]) ?_ rfl ⟨rfl, rfl⟩; simp [results, Tryd.results169, go_sem]; done)
        | (exfalso; simp_all; omega)
        | trace_state
  · have hv : leadR b = (1, 128, 191, true) := by
      unfold leadR leadT
      rw [if_neg (by omega), if_pos (by omega)]
    rw [hv]
    have q1 : decide (b < 128) = false := by simp; omega
    have e224 : (b == 224) = false := by simp; omega
    have e237 : (b == 237) = false := by simp; omega
    have e240 : (b == 240) = false := by simp; omega
    have e244 : (b == 244) = false := by simp; omega
    clear hv
    go_enter Tryd.func169, Tryd.ntmps169
    go_wp2
    all_goals
      first
        | (refine bodyPost_ret (v := .tuple #[.int .i64 1, .int .u8 128, .int .u8 191, .bool true]) ?_ rfl ⟨rfl, rfl⟩; simp [results, Tryd.results169, go_sem]; done)
        | (exfalso; simp_all; omega)
        | trace_state
  · have hv : leadR b = (2, 160, 191, true) := by
      unfold leadR leadT
      rw [if_neg (by omega), if_neg (by omega), if_pos (by omega)]
    rw [hv]
    have q1 : decide (b < 128) = false := by simp; omega
    have e224 : (b == 224) = true := by simp; omega
    have e237 : (b == 237) = false := by simp; omega
    have e240 : (b == 240) = false := by simp; omega
    have e244 : (b == 244) = false := by simp; omega
    clear hv
    go_enter Tryd.func169, Tryd.ntmps169
    go_wp2
    all_goals
      first
        | (refine bodyPost_ret (v := .tuple #[.int .i64 2, .int .u8 160, .int .u8 191, .bool true]) ?_ rfl ⟨rfl, rfl⟩; simp [results, Tryd.results169, go_sem]; done)
        | (exfalso; simp_all; omega)
        | trace_state
  · have hv : leadR b = (2, 128, 159, true) := by
      unfold leadR leadT
      rw [if_neg (by omega), if_neg (by omega), if_neg (by omega), if_pos (by omega)]
    rw [hv]
    have q1 : decide (b < 128) = false := by simp; omega
    have e224 : (b == 224) = false := by simp; omega
    have e237 : (b == 237) = true := by simp; omega
    have e240 : (b == 240) = false := by simp; omega
    have e244 : (b == 244) = false := by simp; omega
    clear hv
    go_enter Tryd.func169, Tryd.ntmps169
    go_wp2
    all_goals
      first
        | (refine bodyPost_ret (v := .tuple #[.int .i64 2, .int .u8 128, .int .u8 159, .bool true]) ?_ rfl ⟨rfl, rfl⟩; simp [results, Tryd.results169, go_sem]; done)
        | (exfalso; simp_all; omega)
        | trace_state
  · have hv : leadR b = (2, 128, 191, true) := by
      unfold leadR leadT
      rw [if_neg (by omega), if_neg (by omega), if_neg (by omega), if_neg (by omega), if_pos (by omega)]
    rw [hv]
    have q1 : decide (b < 128) = false := by simp; omega
    have e224 : (b == 224) = false := by simp; omega
    have e237 : (b == 237) = false := by simp; omega
    have e240 : (b == 240) = false := by simp; omega
    have e244 : (b == 244) = false := by simp; omega
    clear hv
    go_enter Tryd.func169, Tryd.ntmps169
    go_wp2
    all_goals
      first
        | (refine bodyPost_ret (v := .tuple #[.int .i64 2, .int .u8 128, .int .u8 191, .bool true]) ?_ rfl ⟨rfl, rfl⟩; simp [results, Tryd.results169, go_sem]; done)
        | (exfalso; simp_all; omega)
        | trace_state
  · have hv : leadR b = (3, 144, 191, true) := by
      unfold leadR leadT
      rw [if_neg (by omega), if_neg (by omega), if_neg (by omega), if_neg (by omega), if_neg (by omega), if_pos (by omega)]
    rw [hv]
    have q1 : decide (b < 128) = false := by simp; omega
    have e224 : (b == 224) = false := by simp; omega
    have e237 : (b == 237) = false := by simp; omega
    have e240 : (b == 240) = true := by simp; omega
    have e244 : (b == 244) = false := by simp; omega
    clear hv
    go_enter Tryd.func169, Tryd.ntmps169
    go_wp2
    all_goals
      first
        | (refine bodyPost_ret (v := .tuple #[.int .i64 3, .int .u8 144, .int .u8 191, .bool true]) ?_ rfl ⟨rfl, rfl⟩; simp [results, Tryd.results169, go_sem]; done)
        | (exfalso; simp_all; omega)
        | trace_state
  · have hv : leadR b = (3, 128, 191, true) := by
      unfold leadR leadT
      rw [if_neg (by omega), if_neg (by omega), if_neg (by omega), if_neg (by omega), if_neg (by omega), if_neg (by omega), if_pos (by omega)]
    rw [hv]
    have q1 : decide (b < 128) = false := by simp; omega
    have e224 : (b == 224) = false := by simp; omega
    have e237 : (b == 237) = false := by simp; omega
    have e240 : (b == 240) = false := by simp; omega
    have e244 : (b == 244) = false := by simp; omega
    clear hv
    go_enter Tryd.func169, Tryd.ntmps169
    go_wp2
    all_goals
      first
        | (refine bodyPost_ret (v := .tuple #[.int .i64 3, .int .u8 128, .int .u8 191, .bool true]) ?_ rfl ⟨rfl, rfl⟩; simp [results, Tryd.results169, go_sem]; done)
        | (exfalso; simp_all; omega)
        | trace_state
  · have hv : leadR b = (3, 128, 143, true) := by
      unfold leadR leadT
      rw [if_neg (by omega), if_neg (by omega), if_neg (by omega), if_neg (by omega), if_neg (by omega), if_neg (by omega), if_neg (by omega), if_pos (by omega)]
    rw [hv]
    have q1 : decide (b < 128) = false := by simp; omega
    have e224 : (b == 224) = false := by simp; omega
    have e237 : (b == 237) = false := by simp; omega
    have e240 : (b == 240) = false := by simp; omega
    have e244 : (b == 244) = true := by simp; omega
    clear hv
    go_enter Tryd.func169, Tryd.ntmps169
    go_wp2
    all_goals
      first
        | (refine bodyPost_ret (v := .tuple #[.int .i64 3, .int .u8 128, .int .u8 143, .bool true]) ?_ rfl ⟨rfl, rfl⟩; simp [results, Tryd.results169, go_sem]; done)
        | (exfalso; simp_all; omega)
        | trace_state
  · have hv : leadR b = (0, 0, 0, false) := by
      unfold leadR leadT
      rw [if_neg (by omega), if_neg (by omega), if_neg (by omega), if_neg (by omega), if_neg (by omega), if_neg (by omega), if_neg (by omega), if_neg (by omega)]
    rw [hv]
    have q1 : decide (b < 128) = false := by simp; omega
    have e224 : (b == 224) = false := by simp; omega
    have e237 : (b == 237) = false := by simp; omega
    have e240 : (b == 240) = false := by simp; omega
    have e244 : (b == 244) = false := by simp; omega
    clear hv
    go_enter Tryd.func169, Tryd.ntmps169
    go_wp2
    all_goals
      first
        | (refine bodyPost_ret (v := .tuple #[.int .i64 0, .int .u8 0, .int .u8 0, .bool false]) ?_ rfl ⟨rfl, rfl⟩; simp [results, Tryd.results169, go_sem]; done)
        | (exfalso; simp_all; omega)
        | trace_state

theorem lead_cases (b : Int) : ((b < 128) ∧ leadR b = (0, 0, 0, true)) ∨ ((194 ≤ b ∧ b ≤ 223) ∧ leadR b = (1, 128, 191, true)) ∨ ((b = 224) ∧ leadR b = (2, 160, 191, true)) ∨ ((b = 237) ∧ leadR b = (2, 128, 159, true)) ∨ (((225 ≤ b ∧ b ≤ 239) ∧ ¬ b = 237) ∧ leadR b = (2, 128, 191, true)) ∨ ((b = 240) ∧ leadR b = (3, 144, 191, true)) ∨ ((241 ≤ b ∧ b ≤ 243) ∧ leadR b = (3, 128, 191, true)) ∨ ((b = 244) ∧ leadR b = (3, 128, 143, true)) ∨ (((128 ≤ b ∧ b < 194) ∨ 244 < b) ∧ leadR b = (0, 0, 0, false)) := by
  have hc : (b < 128) ∨ (194 ≤ b ∧ b ≤ 223) ∨ (b = 224) ∨ (b = 237) ∨ ((225 ≤ b ∧ b ≤ 239) ∧ ¬ b = 237) ∨ (b = 240) ∨ (241 ≤ b ∧ b ≤ 243) ∨ (b = 244) ∨ ((128 ≤ b ∧ b < 194) ∨ 244 < b) := by omega
  rcases hc with h | h | h | h | h | h | h | h | h
  · exact .inl ⟨h, by unfold leadR leadT; rw [if_pos (by omega)]⟩
  · exact .inr (.inl ⟨h, by unfold leadR leadT; rw [if_neg (by omega), if_pos (by omega)]⟩)
  · exact .inr (.inr (.inl ⟨h, by unfold leadR leadT; rw [if_neg (by omega), if_neg (by omega), if_pos (by omega)]⟩))
  · exact .inr (.inr (.inr (.inl ⟨h, by unfold leadR leadT; rw [if_neg (by omega), if_neg (by omega), if_neg (by omega), if_pos (by omega)]⟩)))
  · exact .inr (.inr (.inr (.inr (.inl ⟨h, by unfold leadR leadT; rw [if_neg (by omega), if_neg (by omega), if_neg (by omega), if_neg (by omega), if_pos (by omega)]⟩))))
  · exact .inr (.inr (.inr (.inr (.inr (.inl ⟨h, by unfold leadR leadT; rw [if_neg (by omega), if_neg (by omega), if_neg (by omega), if_neg (by omega), if_neg (by omega), if_pos (by omega)]⟩)))))
  · exact .inr (.inr (.inr (.inr (.inr (.inr (.inl ⟨h, by unfold leadR leadT; rw [if_neg (by omega), if_neg (by omega), if_neg (by omega), if_neg (by omega), if_neg (by omega), if_neg (by omega), if_pos (by omega)]⟩))))))
  · exact .inr (.inr (.inr (.inr (.inr (.inr (.inr (.inl ⟨h, by unfold leadR leadT; rw [if_neg (by omega), if_neg (by omega), if_neg (by omega), if_neg (by omega), if_neg (by omega), if_neg (by omega), if_neg (by omega), if_pos (by omega)]⟩)))))))
  · exact .inr (.inr (.inr (.inr (.inr (.inr (.inr (.inr (⟨h, by unfold leadR leadT; rw [if_neg (by omega), if_neg (by omega), if_neg (by omega), if_neg (by omega), if_neg (by omega), if_neg (by omega), if_neg (by omega), if_neg (by omega)]⟩))))))))

end Go.Proofs.YtiohiiekaofkbaaDoor
