/- Contract of Sizes. -/
import Derived.Test.YtiohiiekaofkbaaDoorS3
namespace Go.Proofs.YtiohiiekaofkbaaDoor
set_option linter.unusedVariables false
set_option linter.unusedSimpArgs false
open Go.RowKit


def szLow (a d r : Int) : Int := if 1099511627776 ≤ r ∨ 1099511627776 ≤ d then a else max a (r - d)
def szHigh (b c r : Int) : Int := if 1099511627776 ≤ r then b else min b (r - c)
def szNone (d r : Int) : Prop := 1099511627776 ≤ r ∧ d < 1099511627776
instance (d r : Int) : Decidable (szNone d r) := inferInstanceAs (Decidable (_ ∧ _))
def szL (a b c d r : Int) : Int := if szNone d r then 1 else wiL (szLow a d r) (szHigh b c r)
def szH (a b c d r : Int) : Int := if szNone d r then 0 else wiH (szLow a d r) (szHigh b c r)

set_option maxHeartbeats 1000000 in
theorem sizes_none (a b c d r : Int) (w : World) (h1 : 1099511627776 ≤ r) (h2 : d < 1099511627776) (ha : 0 ≤ a) (ha2 : a ≤ 274877906944) (hb : 0 ≤ b) (hb2 : b ≤ 9223372036854775807) (hc : 0 ≤ c) (hc2 : c ≤ 274877906944) (hd : 0 ≤ d) (hd2 : d ≤ 9223372036854775807) (hr : 0 ≤ r) (hr2 : r ≤ 1099511627776) (hw : 5 < w.heap.size) (g0 : w.cell? ⟨5, 0, none⟩ = some (.int .u64 1)) (g1 : w.cell? ⟨5, 1, none⟩ = some (.int .u64 0)) :
    Calls Tryd.prog 123 #[.agg #[.int .i64 a, .int .i64 b], .agg #[.int .i64 c, .int .i64 d], .int .i64 r] w fun e w' => e = .returned (.agg #[.int .u64 1, .int .u64 0]) ∧ Below w.heap.size w w' := by
  obtain ⟨hG1, hG2, hG3, hG4, hG5, hG6⟩ := glob_far hw g0; obtain ⟨hH1, hH2, hH3, hH4, hH5, hH6⟩ := glob_far hw g1
  go_enter Tryd.func123, Tryd.ntmps123
  go_wp2_with fail
  go_region
  all_goals
    go_wp2
    refine bodyPost_ret (v := .agg #[.int .u64 1, .int .u64 0]) ?_ rfl ⟨rfl, (by repeat (first | exact Below.refl _ _ | assumption | refine Below.alloc ?_ (by first | exact Nat.le_refl _ | (simp; done) | (simp; omega) | omega) _ | refine Below.drew ?_ | refine Below.setCell ?_ (by first | exact Nat.le_refl _ | (simp; done) | (simp; omega) | omega) _ | refine below_call ?_ (by assumption) (by first | exact Nat.le_refl _ | (simp; done) | (simp; omega) | omega)))⟩
    simp [results, Tryd.results123, go_sem]

set_option maxHeartbeats 1000000 in
theorem sizes_a (a b c d r : Int) (w : World) (h1 : 1099511627776 ≤ r) (h2 : 1099511627776 ≤ d) (ha : 0 ≤ a) (ha2 : a ≤ 274877906944) (hb : 0 ≤ b) (hb2 : b ≤ 9223372036854775807) (hc : 0 ≤ c) (hc2 : c ≤ 274877906944) (hd : 0 ≤ d) (hd2 : d ≤ 9223372036854775807) (hr : 0 ≤ r) (hr2 : r ≤ 1099511627776) (hw : 5 < w.heap.size) (g0 : w.cell? ⟨5, 0, none⟩ = some (.int .u64 1)) (g1 : w.cell? ⟨5, 1, none⟩ = some (.int .u64 0)) :
    Calls Tryd.prog 123 #[.agg #[.int .i64 a, .int .i64 b], .agg #[.int .i64 c, .int .i64 d], .int .i64 r] w fun e w' => e = .returned (.agg #[.int .u64 (wiL (a) (b)), .int .u64 (wiH (a) (b))]) ∧ Below w.heap.size w w' := by
  obtain ⟨hG1, hG2, hG3, hG4, hG5, hG6⟩ := glob_far hw g0; obtain ⟨hH1, hH2, hH3, hH4, hH5, hH6⟩ := glob_far hw g1
  go_enter Tryd.func123, Tryd.ntmps123
  go_wp2_with fail
  go_region
  all_goals
    go_wp2_with (first | (go_at_call 155; refine (within_any _ _ _ (by omega) (by omega) (by omega) (by omega) (by first | exact Nat.le_refl _ | (simp; done) | (simp; omega) | omega) (by go_simp) (by go_simp)).mono ?_; rintro e w' ⟨rfl, hb1⟩; (first | have hq1 := hz1 | have hq1 := True.intro); (first | have hq0 := hz0 | have hq0 := True.intro); obtain ⟨hcc, hff⟩ := bcell hb1; have hz1 := hb1.size; (try simp at hz1); (try have hy1 := Nat.lt_of_lt_of_le hq1 hz1); (try have hy0 := Nat.lt_of_lt_of_le hq0 hz1); (try replace hz1 := Nat.lt_of_succ_le hz1); (try have hz0 := Nat.lt_of_succ_lt hz1)) | go_in)
    all_goals
      obtain ⟨q0, q1⟩ := set2 (W := w') (g := w.heap.size + 1 + 1) (x := .int .u64 0) (y := .int .u64 0) (u := .int .u64 (wiL (a) (b))) (v := .int .u64 (wiH (a) (b))) (by go_simp) (by go_simp)
      refine bodyPost_ret (v := .agg #[.int .u64 (wiL (a) (b)), .int .u64 (wiH (a) (b))]) ?_ rfl ⟨rfl, (by repeat (first | exact Below.refl _ _ | assumption | refine Below.alloc ?_ (by first | exact Nat.le_refl _ | (simp; done) | (simp; omega) | omega) _ | refine Below.drew ?_ | refine Below.setCell ?_ (by first | exact Nat.le_refl _ | (simp; done) | (simp; omega) | omega) _ | refine below_call ?_ (by assumption) (by first | exact Nat.le_refl _ | (simp; done) | (simp; omega) | omega)))⟩
      simp [results, Tryd.results123, go_sem, q0, q1]

set_option maxHeartbeats 1000000 in
theorem sizes_b1 (a b c d r : Int) (w : World) (h1 : r < 1099511627776) (h2 : 1099511627776 ≤ d) (h3 : b ≤ r - c) (ha : 0 ≤ a) (ha2 : a ≤ 274877906944) (hb : 0 ≤ b) (hb2 : b ≤ 9223372036854775807) (hc : 0 ≤ c) (hc2 : c ≤ 274877906944) (hd : 0 ≤ d) (hd2 : d ≤ 9223372036854775807) (hr : 0 ≤ r) (hr2 : r ≤ 1099511627776) (hw : 5 < w.heap.size) (g0 : w.cell? ⟨5, 0, none⟩ = some (.int .u64 1)) (g1 : w.cell? ⟨5, 1, none⟩ = some (.int .u64 0)) :
    Calls Tryd.prog 123 #[.agg #[.int .i64 a, .int .i64 b], .agg #[.int .i64 c, .int .i64 d], .int .i64 r] w fun e w' => e = .returned (.agg #[.int .u64 (wiL (a) (b)), .int .u64 (wiH (a) (b))]) ∧ Below w.heap.size w w' := by
  obtain ⟨hG1, hG2, hG3, hG4, hG5, hG6⟩ := glob_far hw g0; obtain ⟨hH1, hH2, hH3, hH4, hH5, hH6⟩ := glob_far hw g1
  go_enter Tryd.func123, Tryd.ntmps123
  go_wp2_with fail
  go_region
  all_goals
    go_wp2_with (first | (go_at_call 155; refine (within_any _ _ _ (by omega) (by omega) (by omega) (by omega) (by first | exact Nat.le_refl _ | (simp; done) | (simp; omega) | omega) (by go_simp) (by go_simp)).mono ?_; rintro e w' ⟨rfl, hb1⟩; (first | have hq1 := hz1 | have hq1 := True.intro); (first | have hq0 := hz0 | have hq0 := True.intro); obtain ⟨hcc, hff⟩ := bcell hb1; have hz1 := hb1.size; (try simp at hz1); (try have hy1 := Nat.lt_of_lt_of_le hq1 hz1); (try have hy0 := Nat.lt_of_lt_of_le hq0 hz1); (try replace hz1 := Nat.lt_of_succ_le hz1); (try have hz0 := Nat.lt_of_succ_lt hz1)) | go_in)
    all_goals
      obtain ⟨q0, q1⟩ := set2 (W := w') (g := w.heap.size + 1 + 1) (x := .int .u64 0) (y := .int .u64 0) (u := .int .u64 (wiL (a) (b))) (v := .int .u64 (wiH (a) (b))) (by go_simp) (by go_simp)
      refine bodyPost_ret (v := .agg #[.int .u64 (wiL (a) (b)), .int .u64 (wiH (a) (b))]) ?_ rfl ⟨rfl, (by repeat (first | exact Below.refl _ _ | assumption | refine Below.alloc ?_ (by first | exact Nat.le_refl _ | (simp; done) | (simp; omega) | omega) _ | refine Below.drew ?_ | refine Below.setCell ?_ (by first | exact Nat.le_refl _ | (simp; done) | (simp; omega) | omega) _ | refine below_call ?_ (by assumption) (by first | exact Nat.le_refl _ | (simp; done) | (simp; omega) | omega)))⟩
      simp [results, Tryd.results123, go_sem, q0, q1]

set_option maxHeartbeats 1000000 in
theorem sizes_c11 (a b c d r : Int) (w : World) (h1 : r < 1099511627776) (h2 : d < 1099511627776) (h3 : b ≤ r - c) (h4 : r - d ≤ a) (ha : 0 ≤ a) (ha2 : a ≤ 274877906944) (hb : 0 ≤ b) (hb2 : b ≤ 9223372036854775807) (hc : 0 ≤ c) (hc2 : c ≤ 274877906944) (hd : 0 ≤ d) (hd2 : d ≤ 9223372036854775807) (hr : 0 ≤ r) (hr2 : r ≤ 1099511627776) (hw : 5 < w.heap.size) (g0 : w.cell? ⟨5, 0, none⟩ = some (.int .u64 1)) (g1 : w.cell? ⟨5, 1, none⟩ = some (.int .u64 0)) :
    Calls Tryd.prog 123 #[.agg #[.int .i64 a, .int .i64 b], .agg #[.int .i64 c, .int .i64 d], .int .i64 r] w fun e w' => e = .returned (.agg #[.int .u64 (wiL (a) (b)), .int .u64 (wiH (a) (b))]) ∧ Below w.heap.size w w' := by
  obtain ⟨hG1, hG2, hG3, hG4, hG5, hG6⟩ := glob_far hw g0; obtain ⟨hH1, hH2, hH3, hH4, hH5, hH6⟩ := glob_far hw g1
  go_enter Tryd.func123, Tryd.ntmps123
  go_wp2_with fail
  go_region
  all_goals
    go_wp2_with (first | (go_at_call 155; refine (within_any _ _ _ (by omega) (by omega) (by omega) (by omega) (by first | exact Nat.le_refl _ | (simp; done) | (simp; omega) | omega) (by go_simp) (by go_simp)).mono ?_; rintro e w' ⟨rfl, hb1⟩; (first | have hq1 := hz1 | have hq1 := True.intro); (first | have hq0 := hz0 | have hq0 := True.intro); obtain ⟨hcc, hff⟩ := bcell hb1; have hz1 := hb1.size; (try simp at hz1); (try have hy1 := Nat.lt_of_lt_of_le hq1 hz1); (try have hy0 := Nat.lt_of_lt_of_le hq0 hz1); (try replace hz1 := Nat.lt_of_succ_le hz1); (try have hz0 := Nat.lt_of_succ_lt hz1)) | go_in)
    all_goals
      obtain ⟨q0, q1⟩ := set2 (W := w') (g := w.heap.size + 1 + 1) (x := .int .u64 0) (y := .int .u64 0) (u := .int .u64 (wiL (a) (b))) (v := .int .u64 (wiH (a) (b))) (by go_simp) (by go_simp)
      refine bodyPost_ret (v := .agg #[.int .u64 (wiL (a) (b)), .int .u64 (wiH (a) (b))]) ?_ rfl ⟨rfl, (by repeat (first | exact Below.refl _ _ | assumption | refine Below.alloc ?_ (by first | exact Nat.le_refl _ | (simp; done) | (simp; omega) | omega) _ | refine Below.drew ?_ | refine Below.setCell ?_ (by first | exact Nat.le_refl _ | (simp; done) | (simp; omega) | omega) _ | refine below_call ?_ (by assumption) (by first | exact Nat.le_refl _ | (simp; done) | (simp; omega) | omega)))⟩
      simp [results, Tryd.results123, go_sem, q0, q1]

set_option maxHeartbeats 1000000 in
theorem sizes_c12 (a b c d r : Int) (w : World) (h1 : r < 1099511627776) (h2 : d < 1099511627776) (h3 : b ≤ r - c) (h4 : a < r - d) (ha : 0 ≤ a) (ha2 : a ≤ 274877906944) (hb : 0 ≤ b) (hb2 : b ≤ 9223372036854775807) (hc : 0 ≤ c) (hc2 : c ≤ 274877906944) (hd : 0 ≤ d) (hd2 : d ≤ 9223372036854775807) (hr : 0 ≤ r) (hr2 : r ≤ 1099511627776) (hw : 5 < w.heap.size) (g0 : w.cell? ⟨5, 0, none⟩ = some (.int .u64 1)) (g1 : w.cell? ⟨5, 1, none⟩ = some (.int .u64 0)) :
    Calls Tryd.prog 123 #[.agg #[.int .i64 a, .int .i64 b], .agg #[.int .i64 c, .int .i64 d], .int .i64 r] w fun e w' => e = .returned (.agg #[.int .u64 (wiL (r - d) (b)), .int .u64 (wiH (r - d) (b))]) ∧ Below w.heap.size w w' := by
  obtain ⟨hG1, hG2, hG3, hG4, hG5, hG6⟩ := glob_far hw g0; obtain ⟨hH1, hH2, hH3, hH4, hH5, hH6⟩ := glob_far hw g1
  go_enter Tryd.func123, Tryd.ntmps123
  go_wp2_with fail
  go_region
  all_goals
    go_wp2_with (first | (go_at_call 155; refine (within_any _ _ _ (by omega) (by omega) (by omega) (by omega) (by first | exact Nat.le_refl _ | (simp; done) | (simp; omega) | omega) (by go_simp) (by go_simp)).mono ?_; rintro e w' ⟨rfl, hb1⟩; (first | have hq1 := hz1 | have hq1 := True.intro); (first | have hq0 := hz0 | have hq0 := True.intro); obtain ⟨hcc, hff⟩ := bcell hb1; have hz1 := hb1.size; (try simp at hz1); (try have hy1 := Nat.lt_of_lt_of_le hq1 hz1); (try have hy0 := Nat.lt_of_lt_of_le hq0 hz1); (try replace hz1 := Nat.lt_of_succ_le hz1); (try have hz0 := Nat.lt_of_succ_lt hz1)) | go_in)
    all_goals
      obtain ⟨q0, q1⟩ := set2 (W := w') (g := w.heap.size + 1 + 1) (x := .int .u64 0) (y := .int .u64 0) (u := .int .u64 (wiL (r - d) (b))) (v := .int .u64 (wiH (r - d) (b))) (by go_simp) (by go_simp)
      refine bodyPost_ret (v := .agg #[.int .u64 (wiL (r - d) (b)), .int .u64 (wiH (r - d) (b))]) ?_ rfl ⟨rfl, (by repeat (first | exact Below.refl _ _ | assumption | refine Below.alloc ?_ (by first | exact Nat.le_refl _ | (simp; done) | (simp; omega) | omega) _ | refine Below.drew ?_ | refine Below.setCell ?_ (by first | exact Nat.le_refl _ | (simp; done) | (simp; omega) | omega) _ | refine below_call ?_ (by assumption) (by first | exact Nat.le_refl _ | (simp; done) | (simp; omega) | omega)))⟩
      simp [results, Tryd.results123, go_sem, q0, q1]

set_option maxHeartbeats 1000000 in
theorem sizes_b2 (a b c d r : Int) (w : World) (h1 : r < 1099511627776) (h2 : 1099511627776 ≤ d) (h3 : r - c < b) (ha : 0 ≤ a) (ha2 : a ≤ 274877906944) (hb : 0 ≤ b) (hb2 : b ≤ 9223372036854775807) (hc : 0 ≤ c) (hc2 : c ≤ 274877906944) (hd : 0 ≤ d) (hd2 : d ≤ 9223372036854775807) (hr : 0 ≤ r) (hr2 : r ≤ 1099511627776) (hw : 5 < w.heap.size) (g0 : w.cell? ⟨5, 0, none⟩ = some (.int .u64 1)) (g1 : w.cell? ⟨5, 1, none⟩ = some (.int .u64 0)) :
    Calls Tryd.prog 123 #[.agg #[.int .i64 a, .int .i64 b], .agg #[.int .i64 c, .int .i64 d], .int .i64 r] w fun e w' => e = .returned (.agg #[.int .u64 (wiL (a) (r - c)), .int .u64 (wiH (a) (r - c))]) ∧ Below w.heap.size w w' := by
  obtain ⟨hG1, hG2, hG3, hG4, hG5, hG6⟩ := glob_far hw g0; obtain ⟨hH1, hH2, hH3, hH4, hH5, hH6⟩ := glob_far hw g1
  go_enter Tryd.func123, Tryd.ntmps123
  go_wp2_with fail
  go_region
  all_goals
    go_wp2_with (first | (go_at_call 155; refine (within_any _ _ _ (by omega) (by omega) (by omega) (by omega) (by first | exact Nat.le_refl _ | (simp; done) | (simp; omega) | omega) (by go_simp) (by go_simp)).mono ?_; rintro e w' ⟨rfl, hb1⟩; (first | have hq1 := hz1 | have hq1 := True.intro); (first | have hq0 := hz0 | have hq0 := True.intro); obtain ⟨hcc, hff⟩ := bcell hb1; have hz1 := hb1.size; (try simp at hz1); (try have hy1 := Nat.lt_of_lt_of_le hq1 hz1); (try have hy0 := Nat.lt_of_lt_of_le hq0 hz1); (try replace hz1 := Nat.lt_of_succ_le hz1); (try have hz0 := Nat.lt_of_succ_lt hz1)) | go_in)
    all_goals
      obtain ⟨q0, q1⟩ := set2 (W := w') (g := w.heap.size + 1 + 1) (x := .int .u64 0) (y := .int .u64 0) (u := .int .u64 (wiL (a) (r - c))) (v := .int .u64 (wiH (a) (r - c))) (by go_simp) (by go_simp)
      refine bodyPost_ret (v := .agg #[.int .u64 (wiL (a) (r - c)), .int .u64 (wiH (a) (r - c))]) ?_ rfl ⟨rfl, (by repeat (first | exact Below.refl _ _ | assumption | refine Below.alloc ?_ (by first | exact Nat.le_refl _ | (simp; done) | (simp; omega) | omega) _ | refine Below.drew ?_ | refine Below.setCell ?_ (by first | exact Nat.le_refl _ | (simp; done) | (simp; omega) | omega) _ | refine below_call ?_ (by assumption) (by first | exact Nat.le_refl _ | (simp; done) | (simp; omega) | omega)))⟩
      simp [results, Tryd.results123, go_sem, q0, q1]

set_option maxHeartbeats 1000000 in
theorem sizes_c21 (a b c d r : Int) (w : World) (h1 : r < 1099511627776) (h2 : d < 1099511627776) (h3 : r - c < b) (h4 : r - d ≤ a) (ha : 0 ≤ a) (ha2 : a ≤ 274877906944) (hb : 0 ≤ b) (hb2 : b ≤ 9223372036854775807) (hc : 0 ≤ c) (hc2 : c ≤ 274877906944) (hd : 0 ≤ d) (hd2 : d ≤ 9223372036854775807) (hr : 0 ≤ r) (hr2 : r ≤ 1099511627776) (hw : 5 < w.heap.size) (g0 : w.cell? ⟨5, 0, none⟩ = some (.int .u64 1)) (g1 : w.cell? ⟨5, 1, none⟩ = some (.int .u64 0)) :
    Calls Tryd.prog 123 #[.agg #[.int .i64 a, .int .i64 b], .agg #[.int .i64 c, .int .i64 d], .int .i64 r] w fun e w' => e = .returned (.agg #[.int .u64 (wiL (a) (r - c)), .int .u64 (wiH (a) (r - c))]) ∧ Below w.heap.size w w' := by
  obtain ⟨hG1, hG2, hG3, hG4, hG5, hG6⟩ := glob_far hw g0; obtain ⟨hH1, hH2, hH3, hH4, hH5, hH6⟩ := glob_far hw g1
  go_enter Tryd.func123, Tryd.ntmps123
  go_wp2_with fail
  go_region
  all_goals
    go_wp2_with (first | (go_at_call 155; refine (within_any _ _ _ (by omega) (by omega) (by omega) (by omega) (by first | exact Nat.le_refl _ | (simp; done) | (simp; omega) | omega) (by go_simp) (by go_simp)).mono ?_; rintro e w' ⟨rfl, hb1⟩; (first | have hq1 := hz1 | have hq1 := True.intro); (first | have hq0 := hz0 | have hq0 := True.intro); obtain ⟨hcc, hff⟩ := bcell hb1; have hz1 := hb1.size; (try simp at hz1); (try have hy1 := Nat.lt_of_lt_of_le hq1 hz1); (try have hy0 := Nat.lt_of_lt_of_le hq0 hz1); (try replace hz1 := Nat.lt_of_succ_le hz1); (try have hz0 := Nat.lt_of_succ_lt hz1)) | go_in)
    all_goals
      obtain ⟨q0, q1⟩ := set2 (W := w') (g := w.heap.size + 1 + 1) (x := .int .u64 0) (y := .int .u64 0) (u := .int .u64 (wiL (a) (r - c))) (v := .int .u64 (wiH (a) (r - c))) (by go_simp) (by go_simp)
      refine bodyPost_ret (v := .agg #[.int .u64 (wiL (a) (r - c)), .int .u64 (wiH (a) (r - c))]) ?_ rfl ⟨rfl, (by repeat (first | exact Below.refl _ _ | assumption | refine Below.alloc ?_ (by first | exact Nat.le_refl _ | (simp; done) | (simp; omega) | omega) _ | refine Below.drew ?_ | refine Below.setCell ?_ (by first | exact Nat.le_refl _ | (simp; done) | (simp; omega) | omega) _ | refine below_call ?_ (by assumption) (by first | exact Nat.le_refl _ | (simp; done) | (simp; omega) | omega)))⟩
      simp [results, Tryd.results123, go_sem, q0, q1]

set_option maxHeartbeats 1000000 in
theorem sizes_c22 (a b c d r : Int) (w : World) (h1 : r < 1099511627776) (h2 : d < 1099511627776) (h3 : r - c < b) (h4 : a < r - d) (ha : 0 ≤ a) (ha2 : a ≤ 274877906944) (hb : 0 ≤ b) (hb2 : b ≤ 9223372036854775807) (hc : 0 ≤ c) (hc2 : c ≤ 274877906944) (hd : 0 ≤ d) (hd2 : d ≤ 9223372036854775807) (hr : 0 ≤ r) (hr2 : r ≤ 1099511627776) (hw : 5 < w.heap.size) (g0 : w.cell? ⟨5, 0, none⟩ = some (.int .u64 1)) (g1 : w.cell? ⟨5, 1, none⟩ = some (.int .u64 0)) :
    Calls Tryd.prog 123 #[.agg #[.int .i64 a, .int .i64 b], .agg #[.int .i64 c, .int .i64 d], .int .i64 r] w fun e w' => e = .returned (.agg #[.int .u64 (wiL (r - d) (r - c)), .int .u64 (wiH (r - d) (r - c))]) ∧ Below w.heap.size w w' := by
  obtain ⟨hG1, hG2, hG3, hG4, hG5, hG6⟩ := glob_far hw g0; obtain ⟨hH1, hH2, hH3, hH4, hH5, hH6⟩ := glob_far hw g1
  go_enter Tryd.func123, Tryd.ntmps123
  go_wp2_with fail
  go_region
  all_goals
    go_wp2_with (first | (go_at_call 155; refine (within_any _ _ _ (by omega) (by omega) (by omega) (by omega) (by first | exact Nat.le_refl _ | (simp; done) | (simp; omega) | omega) (by go_simp) (by go_simp)).mono ?_; rintro e w' ⟨rfl, hb1⟩; (first | have hq1 := hz1 | have hq1 := True.intro); (first | have hq0 := hz0 | have hq0 := True.intro); obtain ⟨hcc, hff⟩ := bcell hb1; have hz1 := hb1.size; (try simp at hz1); (try have hy1 := Nat.lt_of_lt_of_le hq1 hz1); (try have hy0 := Nat.lt_of_lt_of_le hq0 hz1); (try replace hz1 := Nat.lt_of_succ_le hz1); (try have hz0 := Nat.lt_of_succ_lt hz1)) | go_in)
    all_goals
      obtain ⟨q0, q1⟩ := set2 (W := w') (g := w.heap.size + 1 + 1) (x := .int .u64 0) (y := .int .u64 0) (u := .int .u64 (wiL (r - d) (r - c))) (v := .int .u64 (wiH (r - d) (r - c))) (by go_simp) (by go_simp)
      refine bodyPost_ret (v := .agg #[.int .u64 (wiL (r - d) (r - c)), .int .u64 (wiH (r - d) (r - c))]) ?_ rfl ⟨rfl, (by repeat (first | exact Below.refl _ _ | assumption | refine Below.alloc ?_ (by first | exact Nat.le_refl _ | (simp; done) | (simp; omega) | omega) _ | refine Below.drew ?_ | refine Below.setCell ?_ (by first | exact Nat.le_refl _ | (simp; done) | (simp; omega) | omega) _ | refine below_call ?_ (by assumption) (by first | exact Nat.le_refl _ | (simp; done) | (simp; omega) | omega)))⟩
      simp [results, Tryd.results123, go_sem, q0, q1]

theorem sizes_any (a b c d r : Int) (w : World) (ha : 0 ≤ a) (ha2 : a ≤ 274877906944) (hb : 0 ≤ b) (hb2 : b ≤ 9223372036854775807) (hc : 0 ≤ c) (hc2 : c ≤ 274877906944) (hd : 0 ≤ d) (hd2 : d ≤ 9223372036854775807) (hr : 0 ≤ r) (hr2 : r ≤ 1099511627776) (hw : 5 < w.heap.size) (g0 : w.cell? ⟨5, 0, none⟩ = some (.int .u64 1)) (g1 : w.cell? ⟨5, 1, none⟩ = some (.int .u64 0)) :
    Calls Tryd.prog 123 #[.agg #[.int .i64 a, .int .i64 b], .agg #[.int .i64 c, .int .i64 d], .int .i64 r] w fun e w' => e = .returned (.agg #[.int .u64 (szL a b c d r), .int .u64 (szH a b c d r)]) ∧ Below w.heap.size w w' := by
  obtain ⟨hG1, hG2, hG3, hG4, hG5, hG6⟩ := glob_far hw g0; obtain ⟨hH1, hH2, hH3, hH4, hH5, hH6⟩ := glob_far hw g1
  by_cases hn : szNone d r
  · have e1 : szL a b c d r = 1 := by unfold szL; rw [if_pos hn]
    have e2 : szH a b c d r = 0 := by unfold szH; rw [if_pos hn]
    rw [e1, e2]
    exact sizes_none a b c d r w hn.1 hn.2 ha ha2 hb hb2 hc hc2 hd hd2 hr hr2 hw g0 g1
  · have e1 : szL a b c d r = wiL (szLow a d r) (szHigh b c r) := by unfold szL; rw [if_neg hn]
    have e2 : szH a b c d r = wiH (szLow a d r) (szHigh b c r) := by unfold szH; rw [if_neg hn]
    rw [e1, e2]
    unfold szNone at hn
    by_cases h1 : 1099511627776 ≤ r
    · rw [show szLow a d r = a by unfold szLow; rw [if_pos (.inl h1)], show szHigh b c r = b by unfold szHigh; rw [if_pos h1]]
      exact sizes_a a b c d r w h1 (by omega) ha ha2 hb hb2 hc hc2 hd hd2 hr hr2 hw g0 g1
    · by_cases h2 : 1099511627776 ≤ d
      · rw [show szLow a d r = a by unfold szLow; rw [if_pos (.inr h2)]]
        by_cases h3 : b ≤ r - c
        · rw [show szHigh b c r = b by unfold szHigh; rw [if_neg h1]; omega]
          exact sizes_b1 a b c d r w (by omega) h2 h3 ha ha2 hb hb2 hc hc2 hd hd2 hr hr2 hw g0 g1
        · rw [show szHigh b c r = r - c by unfold szHigh; rw [if_neg h1]; omega]
          exact sizes_b2 a b c d r w (by omega) h2 (by omega) ha ha2 hb hb2 hc hc2 hd hd2 hr hr2 hw g0 g1
      · by_cases h4 : r - d ≤ a
        · rw [show szLow a d r = a by unfold szLow; rw [if_neg (by omega)]; omega]
          by_cases h3 : b ≤ r - c
          · rw [show szHigh b c r = b by unfold szHigh; rw [if_neg h1]; omega]
            exact sizes_c11 a b c d r w (by omega) (by omega) h3 h4 ha ha2 hb hb2 hc hc2 hd hd2 hr hr2 hw g0 g1
          · rw [show szHigh b c r = r - c by unfold szHigh; rw [if_neg h1]; omega]
            exact sizes_c21 a b c d r w (by omega) (by omega) (by omega) h4 ha ha2 hb hb2 hc hc2 hd hd2 hr hr2 hw g0 g1
        · rw [show szLow a d r = r - d by unfold szLow; rw [if_neg (by omega)]; omega]
          by_cases h3 : b ≤ r - c
          · rw [show szHigh b c r = b by unfold szHigh; rw [if_neg h1]; omega]
            exact sizes_c12 a b c d r w (by omega) (by omega) h3 (by omega) ha ha2 hb hb2 hc hc2 hd hd2 hr hr2 hw g0 g1
          · rw [show szHigh b c r = r - c by unfold szHigh; rw [if_neg h1]; omega]
            exact sizes_c22 a b c d r w (by omega) (by omega) (by omega) (by omega) ha ha2 hb hb2 hc hc2 hd hd2 hr hr2 hw g0 g1

end Go.Proofs.YtiohiiekaofkbaaDoor
