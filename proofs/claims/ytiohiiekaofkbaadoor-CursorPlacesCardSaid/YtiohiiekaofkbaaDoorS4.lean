/- Contracts of Counts (the rest) and Sizes. -/
import Derived.Test.YtiohiiekaofkbaaDoorS3
namespace Go.Proofs.YtiohiiekaofkbaaDoor
set_option linter.unusedVariables false
set_option linter.unusedSimpArgs false
open Go.RowKit

set_option maxHeartbeats 1000000 in
theorem counts_one (a b c d r : Int) (w : World) (ha : 1 ≤ a) (ha2 : a ≤ 1099511627776) (hb : 1 ≤ b) (hb2 : b ≤ 9223372036854775807) (h1 : c ≤ r) (h2 : d < 1099511627776) (h3 : d < r) (h4 : 1099511627776 ≤ b) (hc : 0 ≤ c) (hc2 : c ≤ 1099511627776) (hd : 0 ≤ d) (hd2 : d ≤ 9223372036854775807) (hr : 0 ≤ r) (hr2 : r ≤ 1099511627776) (hw : 5 < w.heap.size) (g0 : w.cell? ⟨5, 0, none⟩ = some (.int .u64 1)) (g1 : w.cell? ⟨5, 1, none⟩ = some (.int .u64 0)) :
    Calls Tryd.prog 149 #[.agg #[.int .i64 a, .int .i64 b], .agg #[.int .i64 c, .int .i64 d], .int .i64 r] w fun e w' => e = .returned (.agg #[.int .u64 (wiL 1 ((r - c) / a)), .int .u64 (wiH 1 ((r - c) / a))]) ∧ Below w.heap.size w w' := by
  obtain ⟨hG1, hG2, hG3, hG4, hG5, hG6⟩ := glob_far hw g0; obtain ⟨hH1, hH2, hH3, hH4, hH5, hH6⟩ := glob_far hw g1
  have q0 := Int.ediv_nonneg (a := r - c) (b := a) (by omega) (by omega)
  have q1 : (r - c) / a ≤ r - c := Int.ediv_le_self _ (by omega)
  rcases Int.le_iff_lt_or_eq.mp ha with h | h
  · have hbE : decide (b < 1099511627776) = false := decide_eq_false (by omega)
    go_enter Tryd.func149, Tryd.ntmps149
    go_wp2_with (first | (go_at_call 155; refine (within_any _ _ _ (by omega) (by omega) (by omega) (by omega) (by first | exact Nat.le_refl _ | (simp; done) | (simp; omega) | omega) (by go_simp) (by go_simp)).mono ?_; rintro e w' ⟨rfl, hb1⟩; obtain ⟨hc1, hf1⟩ := bcell hb1; have hz1 := hb1.size; (try simp at hz1); (try replace hz1 := Nat.lt_of_succ_le hz1)) | go_in)
    all_goals
      obtain ⟨q0, q1⟩ := set2 (W := w') (g := w.heap.size + 1 + 1) (x := .int .u64 0) (y := .int .u64 0) (u := .int .u64 (wiL 1 ((r - c) / a))) (v := .int .u64 (wiH 1 ((r - c) / a))) (by go_simp) (by go_simp)
      refine bodyPost_ret (v := .agg #[.int .u64 (wiL 1 ((r - c) / a)), .int .u64 (wiH 1 ((r - c) / a))]) ?_ rfl ⟨rfl, (by repeat (first | exact Below.refl _ _ | assumption | refine Below.alloc ?_ (by first | exact Nat.le_refl _ | (simp; done) | (simp; omega) | omega) _ | refine Below.drew ?_ | refine Below.setCell ?_ (by first | exact Nat.le_refl _ | (simp; done) | (simp; omega) | omega) _ | refine below_call ?_ (by assumption) (by first | exact Nat.le_refl _ | (simp; done) | (simp; omega) | omega)))⟩
      simp [results, Tryd.results149, go_sem, q0, q1]
  · subst h
    have e1 : (r - c) / 1 = r - c := Int.ediv_one _
    rw [e1] at q0 ⊢
    clear q1 e1
    have hbE : decide (b < 1099511627776) = false := decide_eq_false (by omega)
    go_enter Tryd.func149, Tryd.ntmps149
    go_wp2_with (first | (go_at_call 155; refine (within_any _ _ _ (by omega) (by omega) (by omega) (by omega) (by first | exact Nat.le_refl _ | (simp; done) | (simp; omega) | omega) (by go_simp) (by go_simp)).mono ?_; rintro e w' ⟨rfl, hb1⟩; obtain ⟨hc1, hf1⟩ := bcell hb1; have hz1 := hb1.size; (try simp at hz1); (try replace hz1 := Nat.lt_of_succ_le hz1)) | go_in)
    all_goals
      obtain ⟨q0, q1⟩ := set2 (W := w') (g := w.heap.size + 1 + 1) (x := .int .u64 0) (y := .int .u64 0) (u := .int .u64 (wiL 1 (r - c))) (v := .int .u64 (wiH 1 (r - c))) (by go_simp) (by go_simp)
      refine bodyPost_ret (v := .agg #[.int .u64 (wiL 1 (r - c)), .int .u64 (wiH 1 (r - c))]) ?_ rfl ⟨rfl, (by repeat (first | exact Below.refl _ _ | assumption | refine Below.alloc ?_ (by first | exact Nat.le_refl _ | (simp; done) | (simp; omega) | omega) _ | refine Below.drew ?_ | refine Below.setCell ?_ (by first | exact Nat.le_refl _ | (simp; done) | (simp; omega) | omega) _ | refine below_call ?_ (by assumption) (by first | exact Nat.le_refl _ | (simp; done) | (simp; omega) | omega)))⟩
      simp [results, Tryd.results149, go_sem, q0, q1]

set_option maxHeartbeats 1000000 in
theorem counts_div (a b c d r : Int) (w : World) (ha : 1 ≤ a) (ha2 : a ≤ 1099511627776) (hb : 1 ≤ b) (hb2 : b < 1099511627776) (h1 : c ≤ r) (h2 : d < 1099511627776) (h3 : d < r) (h4 : r < 1099511627776) (hc : 0 ≤ c) (hc2 : c ≤ 1099511627776) (hd : 0 ≤ d) (hd2 : d ≤ 9223372036854775807) (hr : 0 ≤ r) (hr2 : r ≤ 1099511627776) (hw : 5 < w.heap.size) (g0 : w.cell? ⟨5, 0, none⟩ = some (.int .u64 1)) (g1 : w.cell? ⟨5, 1, none⟩ = some (.int .u64 0)) :
    Calls Tryd.prog 149 #[.agg #[.int .i64 a, .int .i64 b], .agg #[.int .i64 c, .int .i64 d], .int .i64 r] w fun e w' => e = .returned (.agg #[.int .u64 (wiL ((r - d + b - 1) / b) ((r - c) / a)), .int .u64 (wiH ((r - d + b - 1) / b) ((r - c) / a))]) ∧ Below w.heap.size w w' := by
  obtain ⟨hG1, hG2, hG3, hG4, hG5, hG6⟩ := glob_far hw g0; obtain ⟨hH1, hH2, hH3, hH4, hH5, hH6⟩ := glob_far hw g1
  have q0 := Int.ediv_nonneg (a := r - c) (b := a) (by omega) (by omega)
  have q1 : (r - c) / a ≤ r - c := Int.ediv_le_self _ (by omega)
  have p0 := Int.ediv_nonneg (a := r - d + b - 1) (b := b) (by omega) (by omega)
  have p1 : (r - d + b - 1) / b ≤ r - d + b - 1 := Int.ediv_le_self _ (by omega)
  rcases Int.le_iff_lt_or_eq.mp ha with h | h
  · rcases Int.le_iff_lt_or_eq.mp hb with h' | h'
    · have hbE : decide (b < 1099511627776) = true := decide_eq_true (by omega)
      go_enter Tryd.func149, Tryd.ntmps149
      go_wp2_with (first | (go_at_call 155; refine (within_any _ _ _ (by omega) (by omega) (by omega) (by omega) (by first | exact Nat.le_refl _ | (simp; done) | (simp; omega) | omega) (by go_simp) (by go_simp)).mono ?_; rintro e w' ⟨rfl, hb1⟩; obtain ⟨hc1, hf1⟩ := bcell hb1; have hz1 := hb1.size; (try simp at hz1); (try replace hz1 := Nat.lt_of_succ_le hz1)) | go_in)
      all_goals
        obtain ⟨q0, q1⟩ := set2 (W := w') (g := w.heap.size + 1 + 1) (x := .int .u64 0) (y := .int .u64 0) (u := .int .u64 (wiL ((r - d + b - 1) / b) ((r - c) / a))) (v := .int .u64 (wiH ((r - d + b - 1) / b) ((r - c) / a))) (by go_simp) (by go_simp)
        refine bodyPost_ret (v := .agg #[.int .u64 (wiL ((r - d + b - 1) / b) ((r - c) / a)), .int .u64 (wiH ((r - d + b - 1) / b) ((r - c) / a))]) ?_ rfl ⟨rfl, (by repeat (first | exact Below.refl _ _ | assumption | refine Below.alloc ?_ (by first | exact Nat.le_refl _ | (simp; done) | (simp; omega) | omega) _ | refine Below.drew ?_ | refine Below.setCell ?_ (by first | exact Nat.le_refl _ | (simp; done) | (simp; omega) | omega) _ | refine below_call ?_ (by assumption) (by first | exact Nat.le_refl _ | (simp; done) | (simp; omega) | omega)))⟩
        simp [results, Tryd.results149, go_sem, q0, q1]
    · subst h'
      have e2 : r - d + 1 - 1 = r - d := by omega
      rw [Int.ediv_one] at p0 ⊢
      rw [e2] at p0 ⊢
      clear p1 e2
      go_enter Tryd.func149, Tryd.ntmps149
      go_wp2_with (first | (go_at_call 155; refine (within_any _ _ _ (by omega) (by omega) (by omega) (by omega) (by first | exact Nat.le_refl _ | (simp; done) | (simp; omega) | omega) (by go_simp) (by go_simp)).mono ?_; rintro e w' ⟨rfl, hb1⟩; obtain ⟨hc1, hf1⟩ := bcell hb1; have hz1 := hb1.size; (try simp at hz1); (try replace hz1 := Nat.lt_of_succ_le hz1)) | go_in)
      all_goals
        obtain ⟨q0, q1⟩ := set2 (W := w') (g := w.heap.size + 1 + 1) (x := .int .u64 0) (y := .int .u64 0) (u := .int .u64 (wiL (r - d) ((r - c) / a))) (v := .int .u64 (wiH (r - d) ((r - c) / a))) (by go_simp) (by go_simp)
        refine bodyPost_ret (v := .agg #[.int .u64 (wiL (r - d) ((r - c) / a)), .int .u64 (wiH (r - d) ((r - c) / a))]) ?_ rfl ⟨rfl, (by repeat (first | exact Below.refl _ _ | assumption | refine Below.alloc ?_ (by first | exact Nat.le_refl _ | (simp; done) | (simp; omega) | omega) _ | refine Below.drew ?_ | refine Below.setCell ?_ (by first | exact Nat.le_refl _ | (simp; done) | (simp; omega) | omega) _ | refine below_call ?_ (by assumption) (by first | exact Nat.le_refl _ | (simp; done) | (simp; omega) | omega)))⟩
        simp [results, Tryd.results149, go_sem, q0, q1]
  · subst h
    rw [Int.ediv_one] at q0 ⊢
    clear q1
    rcases Int.le_iff_lt_or_eq.mp hb with h' | h'
    · have hbE : decide (b < 1099511627776) = true := decide_eq_true (by omega)
      go_enter Tryd.func149, Tryd.ntmps149
      go_wp2_with (first | (go_at_call 155; refine (within_any _ _ _ (by omega) (by omega) (by omega) (by omega) (by first | exact Nat.le_refl _ | (simp; done) | (simp; omega) | omega) (by go_simp) (by go_simp)).mono ?_; rintro e w' ⟨rfl, hb1⟩; obtain ⟨hc1, hf1⟩ := bcell hb1; have hz1 := hb1.size; (try simp at hz1); (try replace hz1 := Nat.lt_of_succ_le hz1)) | go_in)
      all_goals
        obtain ⟨q0, q1⟩ := set2 (W := w') (g := w.heap.size + 1 + 1) (x := .int .u64 0) (y := .int .u64 0) (u := .int .u64 (wiL ((r - d + b - 1) / b) (r - c))) (v := .int .u64 (wiH ((r - d + b - 1) / b) (r - c))) (by go_simp) (by go_simp)
        refine bodyPost_ret (v := .agg #[.int .u64 (wiL ((r - d + b - 1) / b) (r - c)), .int .u64 (wiH ((r - d + b - 1) / b) (r - c))]) ?_ rfl ⟨rfl, (by repeat (first | exact Below.refl _ _ | assumption | refine Below.alloc ?_ (by first | exact Nat.le_refl _ | (simp; done) | (simp; omega) | omega) _ | refine Below.drew ?_ | refine Below.setCell ?_ (by first | exact Nat.le_refl _ | (simp; done) | (simp; omega) | omega) _ | refine below_call ?_ (by assumption) (by first | exact Nat.le_refl _ | (simp; done) | (simp; omega) | omega)))⟩
        simp [results, Tryd.results149, go_sem, q0, q1]
    · subst h'
      have e2 : r - d + 1 - 1 = r - d := by omega
      rw [Int.ediv_one] at p0 ⊢
      rw [e2] at p0 ⊢
      clear p1 e2
      go_enter Tryd.func149, Tryd.ntmps149
      go_wp2_with (first | (go_at_call 155; refine (within_any _ _ _ (by omega) (by omega) (by omega) (by omega) (by first | exact Nat.le_refl _ | (simp; done) | (simp; omega) | omega) (by go_simp) (by go_simp)).mono ?_; rintro e w' ⟨rfl, hb1⟩; obtain ⟨hc1, hf1⟩ := bcell hb1; have hz1 := hb1.size; (try simp at hz1); (try replace hz1 := Nat.lt_of_succ_le hz1)) | go_in)
      all_goals
        obtain ⟨q0, q1⟩ := set2 (W := w') (g := w.heap.size + 1 + 1) (x := .int .u64 0) (y := .int .u64 0) (u := .int .u64 (wiL (r - d) (r - c))) (v := .int .u64 (wiH (r - d) (r - c))) (by go_simp) (by go_simp)
        refine bodyPost_ret (v := .agg #[.int .u64 (wiL (r - d) (r - c)), .int .u64 (wiH (r - d) (r - c))]) ?_ rfl ⟨rfl, (by repeat (first | exact Below.refl _ _ | assumption | refine Below.alloc ?_ (by first | exact Nat.le_refl _ | (simp; done) | (simp; omega) | omega) _ | refine Below.drew ?_ | refine Below.setCell ?_ (by first | exact Nat.le_refl _ | (simp; done) | (simp; omega) | omega) _ | refine below_call ?_ (by assumption) (by first | exact Nat.le_refl _ | (simp; done) | (simp; omega) | omega)))⟩
        simp [results, Tryd.results149, go_sem, q0, q1]

theorem counts_any (a b c d r : Int) (w : World) (ha : 1 ≤ a) (ha2 : a ≤ 1099511627776) (hb : 1 ≤ b) (hb2 : b ≤ 9223372036854775807) (hc : 0 ≤ c) (hc2 : c ≤ 1099511627776) (hd : 0 ≤ d) (hd2 : d ≤ 9223372036854775807) (hr : 0 ≤ r) (hr2 : r ≤ 1099511627776) (hw : 5 < w.heap.size) (g0 : w.cell? ⟨5, 0, none⟩ = some (.int .u64 1)) (g1 : w.cell? ⟨5, 1, none⟩ = some (.int .u64 0)) :
    Calls Tryd.prog 149 #[.agg #[.int .i64 a, .int .i64 b], .agg #[.int .i64 c, .int .i64 d], .int .i64 r] w fun e w' => e = .returned (.agg #[.int .u64 (cnL a b c d r), .int .u64 (cnH a b c d r)]) ∧ Below w.heap.size w w' := by
  obtain ⟨hG1, hG2, hG3, hG4, hG5, hG6⟩ := glob_far hw g0; obtain ⟨hH1, hH2, hH3, hH4, hH5, hH6⟩ := glob_far hw g1
  by_cases hn : cnNone b c d r
  · have e1 : cnL a b c d r = 1 := by unfold cnL; rw [if_pos hn]
    have e2 : cnH a b c d r = 0 := by unfold cnH; rw [if_pos hn]
    rw [e1, e2]
    exact counts_none a b c d r w hn hc hc2 hd hd2 hr hr2 hw g0 g1
  · have e1 : cnL a b c d r = wiL (cnLow b c d r) ((r - c) / a) := by unfold cnL cnHigh; rw [if_neg hn]
    have e2 : cnH a b c d r = wiH (cnLow b c d r) ((r - c) / a) := by unfold cnH cnHigh; rw [if_neg hn]
    rw [e1, e2]
    unfold cnNone at hn
    by_cases h1 : hasB c d r = true ∧ (r < 1099511627776 ∨ 1099511627776 ≤ d)
    · have e3 : cnLow b c d r = 0 := by unfold cnLow; rw [if_pos h1]
      rw [e3]
      have h2 := h1.1
      simp only [hasB, decide_eq_true_eq] at h2
      exact counts_in a b c d r w ha ha2 hb hb2 (by omega) h1.2 (by omega) hc hc2 hd hd2 hr hr2 hw g0 g1
    · have h2 : d < 1099511627776 ∧ d < r := by
        simp only [hasB, decide_eq_true_eq] at h1
        omega
      by_cases h3 : 1099511627776 ≤ b
      · have e3 : cnLow b c d r = 1 := by unfold cnLow; rw [if_neg h1, if_pos h3]
        rw [e3]
        exact counts_one a b c d r w ha ha2 hb hb2 (by omega) h2.1 h2.2 h3 hc hc2 hd hd2 hr hr2 hw g0 g1
      · have e3 : cnLow b c d r = (r - d + b - 1) / b := by unfold cnLow; rw [if_neg h1, if_neg h3]
        rw [e3]
        exact counts_div a b c d r w ha ha2 hb (by omega) (by omega) h2.1 h2.2 (by omega) hc hc2 hd hd2 hr hr2 hw g0 g1

end Go.Proofs.YtiohiiekaofkbaaDoor
