/- Contracts of Counts and Sizes. -/
import Derived.Test.YtiohiiekaofkbaaDoorS1
namespace Go.Proofs.YtiohiiekaofkbaaDoor
set_option linter.unusedVariables false
set_option linter.unusedSimpArgs false
open Go.RowKit

def cnLow (b c d r : Int) : Int := if hasB c d r = true ∧ (r < 1099511627776 ∨ 1099511627776 ≤ d) then 0 else if 1099511627776 ≤ b then 1 else (r - d + b - 1) / b
def cnHigh (a c r : Int) : Int := (r - c) / a
def cnNone (b c d r : Int) : Prop := r < c ∨ (1099511627776 ≤ r ∧ b < 1099511627776 ∧ d < 1099511627776)
instance (b c d r : Int) : Decidable (cnNone b c d r) := inferInstanceAs (Decidable (_ ∨ _))
def cnL (a b c d r : Int) : Int := if cnNone b c d r then 1 else wiL (cnLow b c d r) (cnHigh a c r)
def cnH (a b c d r : Int) : Int := if cnNone b c d r then 0 else wiH (cnLow b c d r) (cnHigh a c r)

set_option maxHeartbeats 1000000 in
theorem counts_none (a b c d r : Int) (w : World) (hn : cnNone b c d r) (hc : 0 ≤ c) (hc2 : c ≤ 1099511627776) (hd : 0 ≤ d) (hd2 : d ≤ 9223372036854775807) (hr : 0 ≤ r) (hr2 : r ≤ 1099511627776) (hw : 5 < w.heap.size) (g0 : w.cell? ⟨5, 0, none⟩ = some (.int .u64 1)) (g1 : w.cell? ⟨5, 1, none⟩ = some (.int .u64 0)) :
    Calls Tryd.prog 149 #[.agg #[.int .i64 a, .int .i64 b], .agg #[.int .i64 c, .int .i64 d], .int .i64 r] w fun e w' => e = .returned (.agg #[.int .u64 1, .int .u64 0]) ∧ Below w.heap.size w w' := by
  obtain ⟨hG1, hG2, hG3, hG4, hG5, hG6⟩ := glob_far hw g0; obtain ⟨hH1, hH2, hH3, hH4, hH5, hH6⟩ := glob_far hw g1
  unfold cnNone at hn
  by_cases h1 : r < c
  · clear hn
    go_enter Tryd.func149, Tryd.ntmps149
    go_wp2
    refine bodyPost_ret (v := .agg #[.int .u64 1, .int .u64 0]) ?_ rfl ⟨rfl, (by repeat (first | exact Below.refl _ _ | assumption | refine Below.alloc ?_ (by first | exact Nat.le_refl _ | (simp; done) | (simp; omega) | omega) _ | refine Below.drew ?_ | refine Below.setCell ?_ (by first | exact Nat.le_refl _ | (simp; done) | (simp; omega) | omega) _ | refine below_call ?_ (by assumption) (by first | exact Nat.le_refl _ | (simp; done) | (simp; omega) | omega)))⟩
    simp [results, Tryd.results149, go_sem]
  · obtain ⟨h2, h3, h4⟩ := hn.resolve_left h1
    clear hn
    go_enter Tryd.func149, Tryd.ntmps149
    go_wp2
    all_goals (refine bodyPost_ret (v := .agg #[.int .u64 1, .int .u64 0]) ?_ rfl ⟨rfl, (by repeat (first | exact Below.refl _ _ | assumption | refine Below.alloc ?_ (by first | exact Nat.le_refl _ | (simp; done) | (simp; omega) | omega) _ | refine Below.drew ?_ | refine Below.setCell ?_ (by first | exact Nat.le_refl _ | (simp; done) | (simp; omega) | omega) _ | refine below_call ?_ (by assumption) (by first | exact Nat.le_refl _ | (simp; done) | (simp; omega) | omega)))⟩)
    all_goals (simp [results, Tryd.results149, go_sem])

set_option maxHeartbeats 1000000 in
theorem counts_in (a b c d r : Int) (w : World) (ha : 1 ≤ a) (ha2 : a ≤ 1099511627776) (hb : 1 ≤ b) (hb2 : b ≤ 9223372036854775807) (h1 : c ≤ r) (h2 : r < 1099511627776 ∨ 1099511627776 ≤ d) (h3 : 1099511627776 ≤ d ∨ r ≤ d) (hc : 0 ≤ c) (hc2 : c ≤ 1099511627776) (hd : 0 ≤ d) (hd2 : d ≤ 9223372036854775807) (hr : 0 ≤ r) (hr2 : r ≤ 1099511627776) (hw : 5 < w.heap.size) (g0 : w.cell? ⟨5, 0, none⟩ = some (.int .u64 1)) (g1 : w.cell? ⟨5, 1, none⟩ = some (.int .u64 0)) :
    Calls Tryd.prog 149 #[.agg #[.int .i64 a, .int .i64 b], .agg #[.int .i64 c, .int .i64 d], .int .i64 r] w fun e w' => e = .returned (.agg #[.int .u64 (wiL 0 ((r - c) / a)), .int .u64 (wiH 0 ((r - c) / a))]) ∧ Below w.heap.size w w' := by
  obtain ⟨hG1, hG2, hG3, hG4, hG5, hG6⟩ := glob_far hw g0; obtain ⟨hH1, hH2, hH3, hH4, hH5, hH6⟩ := glob_far hw g1
  have q0 := Int.ediv_nonneg (a := r - c) (b := a) (by omega) (by omega)
  have q1 : (r - c) / a ≤ r - c := Int.ediv_le_self _ (by omega)
  rcases Int.le_iff_lt_or_eq.mp ha with h | h
  · go_enter Tryd.func149, Tryd.ntmps149
    go_wp2_with (first | (go_at_call 155; refine (within_any _ _ _ (by omega) (by omega) (by omega) (by omega) (by first | exact Nat.le_refl _ | (simp; done) | (simp; omega) | omega) (by go_simp) (by go_simp)).mono ?_; rintro e w' ⟨rfl, hb1⟩; obtain ⟨hc1, hf1⟩ := bcell hb1; have hz1 := hb1.size; (try simp at hz1); (try replace hz1 := Nat.lt_of_succ_le hz1)) | go_in)
    all_goals
      obtain ⟨q0, q1⟩ := set2 (W := w') (g := w.heap.size + 1 + 1) (x := .int .u64 0) (y := .int .u64 0) (u := .int .u64 (wiL 0 ((r - c) / a))) (v := .int .u64 (wiH 0 ((r - c) / a))) (by go_simp) (by go_simp)
      refine bodyPost_ret (v := .agg #[.int .u64 (wiL 0 ((r - c) / a)), .int .u64 (wiH 0 ((r - c) / a))]) ?_ rfl ⟨rfl, (by repeat (first | exact Below.refl _ _ | assumption | refine Below.alloc ?_ (by first | exact Nat.le_refl _ | (simp; done) | (simp; omega) | omega) _ | refine Below.drew ?_ | refine Below.setCell ?_ (by first | exact Nat.le_refl _ | (simp; done) | (simp; omega) | omega) _ | refine below_call ?_ (by assumption) (by first | exact Nat.le_refl _ | (simp; done) | (simp; omega) | omega)))⟩
      simp [results, Tryd.results149, go_sem, q0, q1]
  · subst h
    have e1 : (r - c) / 1 = r - c := Int.ediv_one _
    rw [e1] at q0 ⊢
    clear q1 e1
    go_enter Tryd.func149, Tryd.ntmps149
    go_wp2_with (first | (go_at_call 155; refine (within_any _ _ _ (by omega) (by omega) (by omega) (by omega) (by first | exact Nat.le_refl _ | (simp; done) | (simp; omega) | omega) (by go_simp) (by go_simp)).mono ?_; rintro e w' ⟨rfl, hb1⟩; obtain ⟨hc1, hf1⟩ := bcell hb1; have hz1 := hb1.size; (try simp at hz1); (try replace hz1 := Nat.lt_of_succ_le hz1)) | go_in)
    all_goals
      obtain ⟨q0, q1⟩ := set2 (W := w') (g := w.heap.size + 1 + 1) (x := .int .u64 0) (y := .int .u64 0) (u := .int .u64 (wiL 0 (r - c))) (v := .int .u64 (wiH 0 (r - c))) (by go_simp) (by go_simp)
      refine bodyPost_ret (v := .agg #[.int .u64 (wiL 0 (r - c)), .int .u64 (wiH 0 (r - c))]) ?_ rfl ⟨rfl, (by repeat (first | exact Below.refl _ _ | assumption | refine Below.alloc ?_ (by first | exact Nat.le_refl _ | (simp; done) | (simp; omega) | omega) _ | refine Below.drew ?_ | refine Below.setCell ?_ (by first | exact Nat.le_refl _ | (simp; done) | (simp; omega) | omega) _ | refine below_call ?_ (by assumption) (by first | exact Nat.le_refl _ | (simp; done) | (simp; omega) | omega)))⟩
      simp [results, Tryd.results149, go_sem, q0, q1]

end Go.Proofs.YtiohiiekaofkbaaDoor
