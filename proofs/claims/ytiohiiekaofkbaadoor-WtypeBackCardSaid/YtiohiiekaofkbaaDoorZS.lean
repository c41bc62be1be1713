/- Some texts of this seat in one. -/
import Derived.Test.YtiohiiekaofkbaaDoorB0
import Derived.StillTailTactics
import Derived.Deep.QuietTactic
import Derived.BigQuiet
import Derived.Deep.DeepCutAuto
import Derived.Deep.RegionHeld3
import Derived.Deep.LoopGhost
/- span's own functions (from seat A.D's texts, by symbols; printed by gen_s.py). -/
namespace Go.Proofs.YtiohiiekaofkbaaDoor
set_option linter.unusedVariables false
set_option linter.unusedSimpArgs false
open Go.RowKit
theorem glob_far {w : World} {g i : Nat} {v : Value} (hw : g < w.heap.size) (h : w.cell? ⟨g, i, none⟩ = some v) :
    (∀ o1 o2 o3, (((w.alloc o1).alloc o2).alloc o3).cell? ⟨g, i, none⟩ = some v) ∧ (∀ o1 o2 o3 o4, ((((w.alloc o1).alloc o2).alloc o3).alloc o4).cell? ⟨g, i, none⟩ = some v) ∧ (∀ o1 o2 o3 o4 o5, (((((w.alloc o1).alloc o2).alloc o3).alloc o4).alloc o5).cell? ⟨g, i, none⟩ = some v) ∧ (∀ o1 o2 o3 o4 o5 o6, ((((((w.alloc o1).alloc o2).alloc o3).alloc o4).alloc o5).alloc o6).cell? ⟨g, i, none⟩ = some v) ∧ (∀ o1 o2 o3 o4 o5 o6 o7, (((((((w.alloc o1).alloc o2).alloc o3).alloc o4).alloc o5).alloc o6).alloc o7).cell? ⟨g, i, none⟩ = some v) ∧ (∀ o1 o2 o3 o4 o5 o6 o7 o8, ((((((((w.alloc o1).alloc o2).alloc o3).alloc o4).alloc o5).alloc o6).alloc o7).alloc o8).cell? ⟨g, i, none⟩ = some v) := by
  refine ⟨?_, ?_, ?_, ?_, ?_, ?_⟩ <;> (intros; repeat (rw [World.cell?_alloc_lt _ _ _ (by simp; omega)])) <;> exact h
theorem set2 {W : World} {g : Nat} {u v x y : Value} (h0 : W.cell? ⟨g, 0, none⟩ = some x) (h1 : W.cell? ⟨g, 1, none⟩ = some y) :
    ((W.setCell ⟨g, 0, none⟩ u).setCell ⟨g, 1, none⟩ v).cell? ⟨g, 0, none⟩ = some u ∧ ((W.setCell ⟨g, 0, none⟩ u).setCell ⟨g, 1, none⟩ v).cell? ⟨g, 1, none⟩ = some v := by
  simp only [World.cell?] at h0 h1
  cases hg : W.heap[g]? with
  | none => simp [hg] at h0
  | some o =>
    cases o <;> simp [hg] at h0 h1
    rename_i c e f
    have a0 : 0 < c.size := by
      rcases Nat.lt_or_ge 0 c.size with q | q
      · exact q
      · simp [Array.getElem?_eq_none q] at h0
    have a1 : 1 < c.size := by
      rcases Nat.lt_or_ge 1 c.size with q | q
      · exact q
      · simp [Array.getElem?_eq_none q] at h1
    simp [World.cell?, World.setCell, Array.getElem?_modify, hg, a0, a1]


def wiL (lo hi : Int) : Int := if min hi 4294967295 < lo ∨ hi < 0 then 1 else max 0 lo
def wiH (lo hi : Int) : Int := if min hi 4294967295 < lo ∨ hi < 0 then 0 else min hi 4294967295

set_option maxHeartbeats 400000 in
theorem within_any (lo hi : Int) (w : World) (h1 : -4000000000000000000 ≤ lo) (h2 : lo ≤ 4000000000000000000) (h3 : -4000000000000000000 ≤ hi) (h4 : hi ≤ 9223372036854775807)
    (hw : 5 < w.heap.size) (g0 : w.cell? ⟨5, 0, none⟩ = some (.int .u64 1)) (g1 : w.cell? ⟨5, 1, none⟩ = some (.int .u64 0)) :
    Calls Tryd.prog 155 #[.int .i64 lo, .int .i64 hi] w fun e w' => e = .returned (.agg #[.int .u64 (wiL lo hi), .int .u64 (wiH lo hi)]) ∧ Below w.heap.size w w' := by
  go_enter Tryd.func155, Tryd.ntmps155
  go_wp2
  all_goals (refine bodyPost_ret (v := .agg #[.int .u64 (wiL lo hi), .int .u64 (wiH lo hi)]) ?_ rfl ⟨rfl, (Below.refl _ _).alloc (Nat.le_refl _) _⟩)
  all_goals (simp [results, Tryd.results155, go_sem])
  all_goals (unfold wiL wiH; omega)

theorem bounded_any (a b : Int) (w : World)  :
    Calls Tryd.prog 140 #[.agg #[.int .i64 a, .int .i64 b]] w fun e w' => e = .returned (.bool (decide (b < 1099511627776))) ∧ Below w.heap.size w w' := by
  go_enter Tryd.func140, Tryd.ntmps140
  go_wp2
  go_ret
  exact ⟨rfl, (Below.refl _ _).alloc (Nat.le_refl _) _⟩

def hasB (a b n : Int) : Bool := decide (a ≤ n ∧ (1099511627776 ≤ b ∨ n ≤ b))

theorem has_any (a b n : Int) (w : World)  :
    Calls Tryd.prog 142 #[.agg #[.int .i64 a, .int .i64 b], .int .i64 n] w fun e w' => e = .returned (.bool (hasB a b n)) ∧ Below w.heap.size w w' := by
  go_enter Tryd.func142, Tryd.ntmps142
  go_wp2
  all_goals
    go_ret
    exact ⟨ret_bool (by rw [Bool.eq_iff_iff]; simp [hasB]; omega), (by repeat (first | exact Below.refl _ _ | assumption | refine Below.alloc ?_ (by first | exact Nat.le_refl _ | (simp; done) | (simp; omega) | omega) _ | refine Below.drew ?_ | refine Below.setCell ?_ (by first | exact Nat.le_refl _ | (simp; done) | (simp; omega) | omega) _ | refine below_call ?_ (by assumption) (by first | exact Nat.le_refl _ | (simp; done) | (simp; omega) | omega)))⟩

def rightB (a b : Int) : Bool := decide (0 ≤ a ∧ a ≤ b ∧ a ≤ 274877906944 ∧ (b ≤ 274877906944 ∨ 1099511627776 ≤ b))

def itemB (a b : Int) : Bool := rightB a b && decide (1 ≤ a ∧ a ≤ 31 ∧ (b ≤ 31 ∨ 1099511627776 ≤ b))

end Go.Proofs.YtiohiiekaofkbaaDoor

/- Contracts of span's times, And, Times and of the reference's Mul, And, Times. -/
namespace Go.Proofs.YtiohiiekaofkbaaDoor
open Go.RowKit

/-- n times m, at most 2^40 -/
def capM (n m : Int) : Int := if 1099511627776 < n * m then 1099511627776 else n * m

theorem div_lt {n m : Int} (hm : 0 < m) : 1099511627776 / m < n ↔ 1099511627776 < n * m := Int.ediv_lt_iff_lt_mul hm

set_option maxHeartbeats 400000 in
theorem times_any (n m : Int) (w : World) (hn : 0 ≤ n) (_hn2 : n ≤ 9223372036854775807) (hm : 0 ≤ m) (hm2 : m ≤ 9223372036854775807) :
    Calls Tryd.prog 162 #[.int .i64 n, .int .i64 m] w fun e w' => e = .returned (.int .i64 (capM n m)) ∧ w = w' := by
  rcases Int.le_iff_lt_or_eq.mp hm with h | h
  · by_cases hd : 1099511627776 / m < n
    · have hD := hid ((div_lt h).mp hd)
      go_enter Tryd.func162, Tryd.ntmps162
      go_wp2
      go_ret
      exact ⟨ret_int (by unfold capM; rw [if_pos hD.out]), rfl⟩
    · have hp : n * m ≤ 1099511627776 := Int.not_lt.mp (fun q => hd ((div_lt h).mpr q))
      have hp0 : 0 ≤ n * m := Int.mul_nonneg hn hm
      have hc : capM n m = n * m := by unfold capM; rw [if_neg (by omega)]
      have hC := hid hc
      clear hc
      go_enter Tryd.func162, Tryd.ntmps162
      go_wp2
      all_goals
        go_ret
        exact ⟨ret_int (by rw [hC.out]; try omega), rfl⟩
  · subst h
    go_enter Tryd.func162, Tryd.ntmps162
    go_wp2
    all_goals
      go_ret
      exact ⟨ret_int (by simp [capM]), rfl⟩

def andMin (a c : Int) : Int := a + c
def andMax (b d : Int) : Int := if 1099511627776 ≤ b ∨ 1099511627776 ≤ d ∨ 1099511627776 < b + d then 1099511627776 else b + d

set_option maxHeartbeats 400000 in
theorem and_any (a b c d : Int) (w : World) (ha : 0 ≤ a) (ha2 : a ≤ 4000000000000000000) (hc : 0 ≤ c) (hc2 : c ≤ 4000000000000000000) (hb : 0 ≤ b) (hd : 0 ≤ d) :
    Calls Tryd.prog 93 #[.agg #[.int .i64 a, .int .i64 b], .agg #[.int .i64 c, .int .i64 d]] w fun e w' => e = .returned (.agg #[.int .i64 (a + c), .int .i64 (andMax b d)]) ∧ Below w.heap.size w w' := by
  go_enter Tryd.func93, Tryd.ntmps93
  go_wp2
  all_goals (refine bodyPost_ret (v := .agg #[.int .i64 (a + c), .int .i64 (andMax b d)]) ?_ rfl ⟨rfl, (by repeat (first | exact Below.refl _ _ | assumption | refine Below.alloc ?_ (by first | exact Nat.le_refl _ | (simp; done) | (simp; omega) | omega) _ | refine Below.drew ?_ | refine Below.setCell ?_ (by first | exact Nat.le_refl _ | (simp; done) | (simp; omega) | omega) _ | refine below_call ?_ (by assumption) (by first | exact Nat.le_refl _ | (simp; done) | (simp; omega) | omega)))⟩)
  all_goals (simp [results, Tryd.results93, go_sem])
  all_goals (unfold andMax; omega)

def tmMin (a n : Int) : Int := if n ≤ 0 then 0 else capM n a
def tmMax (b n : Int) : Int := if n ≤ 0 then 0 else if 1099511627776 ≤ b then 1099511627776 else capM n b

set_option maxHeartbeats 400000 in
theorem tms_any (a b n : Int) (w : World) (ha : 0 ≤ a) (ha2 : a ≤ 4000000000000000000) (hb : 0 ≤ b) (hb2 : b ≤ 9223372036854775807) (hn : n ≤ 9223372036854775807) :
    Calls Tryd.prog 138 #[.agg #[.int .i64 a, .int .i64 b], .int .i64 n] w fun e w' => e = .returned (.agg #[.int .i64 (tmMin a n), .int .i64 (tmMax b n)]) ∧ Below w.heap.size w w' := by
  go_enter Tryd.func138, Tryd.ntmps138
  go_wp2_with (first | (go_at_call 162; refine (times_any _ _ _ (by omega) (by omega) (by omega) (by omega)).mono ?_; rintro e w' ⟨rfl, rfl⟩) | go_in)
  all_goals (refine bodyPost_ret (v := .agg #[.int .i64 (tmMin a n), .int .i64 (tmMax b n)]) ?_ rfl ⟨rfl, (by repeat (first | exact Below.refl _ _ | assumption | refine Below.alloc ?_ (by first | exact Nat.le_refl _ | (simp; done) | (simp; omega) | omega) _ | refine Below.drew ?_ | refine Below.setCell ?_ (by first | exact Nat.le_refl _ | (simp; done) | (simp; omega) | omega) _ | refine below_call ?_ (by assumption) (by first | exact Nat.le_refl _ | (simp; done) | (simp; omega) | omega)))⟩)
  all_goals (simp [results, Tryd.results138, go_sem])
  all_goals (unfold tmMin tmMax; constructor <;> (repeat (first | rw [if_pos (by omega)] | rw [if_neg (by omega)])))

end Go.Proofs.YtiohiiekaofkbaaDoor

/- Contracts of Counts and Sizes. -/
namespace Go.Proofs.YtiohiiekaofkbaaDoor
set_option linter.unusedVariables false
set_option linter.unusedSimpArgs false
open Go.RowKit

def cnLow (b c d r : Int) : Int := if hasB c d r = true ∧ (r < 1099511627776 ∨ 1099511627776 ≤ d) then 0 else if 1099511627776 ≤ b then 1 else (r - d + b - 1) / b
def cnHigh (a c r : Int) : Int := (r - c) / a
def cnNone (b c d r : Int) : Prop := r < c ∨ (1099511627776 ≤ r ∧ b < 1099511627776 ∧ d < 1099511627776)
instance (b c d r : Int) : Decidable (cnNone b c d r) := inferInstanceAs (Decidable (_ ∨ _))
def cnL (a b c d r : Int) : Int := if cnNone b c d r then 1 else wiL (cnLow b c d r) (cnHigh a c r)
def cnH (a b c d r : Int) : Int := if cnNone b c d r then 0 else wiH (cnLow b c d r) (cnHigh a c r)

set_option maxHeartbeats 1000000 in
theorem counts_none (a b c d r : Int) (w : World) (hn : cnNone b c d r) (hc : 0 ≤ c) (hc2 : c ≤ 1099511627776) (hd : 0 ≤ d) (hd2 : d ≤ 9223372036854775807) (hr : 0 ≤ r) (hr2 : r ≤ 1099511627776) (hw : 5 < w.heap.size) (g0 : w.cell? ⟨5, 0, none⟩ = some (.int .u64 1)) (g1 : w.cell? ⟨5, 1, none⟩ = some (.int .u64 0)) :
    Calls Tryd.prog 149 #[.agg #[.int .i64 a, .int .i64 b], .agg #[.int .i64 c, .int .i64 d], .int .i64 r] w fun e w' => e = .returned (.agg #[.int .u64 1, .int .u64 0]) ∧ Below w.heap.size w w' := by
  obtain ⟨hG1, hG2, hG3, hG4, hG5, hG6⟩ := glob_far hw g0; obtain ⟨hH1, hH2, hH3, hH4, hH5, hH6⟩ := glob_far hw g1
  unfold cnNone at hn
  by_cases h1 : r < c
  · clear hn
    go_enter Tryd.func149, Tryd.ntmps149
    go_wp2
    refine bodyPost_ret (v := .agg #[.int .u64 1, .int .u64 0]) ?_ rfl ⟨rfl, (by repeat (first | exact Below.refl _ _ | assumption | refine Below.alloc ?_ (by first | exact Nat.le_refl _ | (simp; done) | (simp; omega) | omega) _ | refine Below.drew ?_ | refine Below.setCell ?_ (by first | exact Nat.le_refl _ | (simp; done) | (simp; omega) | omega) _ | refine below_call ?_ (by assumption) (by first | exact Nat.le_refl _ | (simp; done) | (simp; omega) | omega)))⟩
    simp [results, Tryd.results149, go_sem]
  · obtain ⟨h2, h3, h4⟩ := hn.resolve_left h1
    clear hn
    go_enter Tryd.func149, Tryd.ntmps149
    go_wp2
    all_goals (refine bodyPost_ret (v := .agg #[.int .u64 1, .int .u64 0]) ?_ rfl ⟨rfl, (by repeat (first | exact Below.refl _ _ | assumption | refine Below.alloc ?_ (by first | exact Nat.le_refl _ | (simp; done) | (simp; omega) | omega) _ | refine Below.drew ?_ | refine Below.setCell ?_ (by first | exact Nat.le_refl _ | (simp; done) | (simp; omega) | omega) _ | refine below_call ?_ (by assumption) (by first | exact Nat.le_refl _ | (simp; done) | (simp; omega) | omega)))⟩)
    all_goals (simp [results, Tryd.results149, go_sem])

set_option maxHeartbeats 1000000 in
theorem counts_in (a b c d r : Int) (w : World) (ha : 1 ≤ a) (ha2 : a ≤ 1099511627776) (hb : 1 ≤ b) (hb2 : b ≤ 9223372036854775807) (h1 : c ≤ r) (h2 : r < 1099511627776 ∨ 1099511627776 ≤ d) (h3 : 1099511627776 ≤ d ∨ r ≤ d) (hc : 0 ≤ c) (hc2 : c ≤ 1099511627776) (hd : 0 ≤ d) (hd2 : d ≤ 9223372036854775807) (hr : 0 ≤ r) (hr2 : r ≤ 1099511627776) (hw : 5 < w.heap.size) (g0 : w.cell? ⟨5, 0, none⟩ = some (.int .u64 1)) (g1 : w.cell? ⟨5, 1, none⟩ = some (.int .u64 0)) :
    Calls Tryd.prog 149 #[.agg #[.int .i64 a, .int .i64 b], .agg #[.int .i64 c, .int .i64 d], .int .i64 r] w fun e w' => e = .returned (.agg #[.int .u64 (wiL 0 ((r - c) / a)), .int .u64 (wiH 0 ((r - c) / a))]) ∧ Below w.heap.size w w' := by
  obtain ⟨hG1, hG2, hG3, hG4, hG5, hG6⟩ := glob_far hw g0; obtain ⟨hH1, hH2, hH3, hH4, hH5, hH6⟩ := glob_far hw g1
  have q0 := Int.ediv_nonneg (a := r - c) (b := a) (by omega) (by omega)
  have q1 : (r - c) / a ≤ r - c := Int.ediv_le_self _ (by omega)
  rcases Int.le_iff_lt_or_eq.mp ha with h | h
  · go_enter Tryd.func149, Tryd.ntmps149
    go_wp2_with (first | (go_at_call 155; refine (within_any _ _ _ (by omega) (by omega) (by omega) (by omega) (by first | exact Nat.le_refl _ | (simp; done) | (simp; omega) | omega) (by go_simp) (by go_simp)).mono ?_; rintro e w' ⟨rfl, hb1⟩; obtain ⟨hc1, hf1⟩ := bcell hb1; have hz1 := hb1.size; (try simp at hz1); (try replace hz1 := Nat.lt_of_succ_le hz1)) | go_in)
    all_goals
      obtain ⟨q0, q1⟩ := set2 (W := w') (g := w.heap.size + 1 + 1) (x := .int .u64 0) (y := .int .u64 0) (u := .int .u64 (wiL 0 ((r - c) / a))) (v := .int .u64 (wiH 0 ((r - c) / a))) (by go_simp) (by go_simp)
      refine bodyPost_ret (v := .agg #[.int .u64 (wiL 0 ((r - c) / a)), .int .u64 (wiH 0 ((r - c) / a))]) ?_ rfl ⟨rfl, (by repeat (first | exact Below.refl _ _ | assumption | refine Below.alloc ?_ (by first | exact Nat.le_refl _ | (simp; done) | (simp; omega) | omega) _ | refine Below.drew ?_ | refine Below.setCell ?_ (by first | exact Nat.le_refl _ | (simp; done) | (simp; omega) | omega) _ | refine below_call ?_ (by assumption) (by first | exact Nat.le_refl _ | (simp; done) | (simp; omega) | omega)))⟩
      simp [results, Tryd.results149, go_sem, q0, q1]
  · subst h
    have e1 : (r - c) / 1 = r - c := Int.ediv_one _
    rw [e1] at q0 ⊢
    clear q1 e1
    go_enter Tryd.func149, Tryd.ntmps149
    go_wp2_with (first | (go_at_call 155; refine (within_any _ _ _ (by omega) (by omega) (by omega) (by omega) (by first | exact Nat.le_refl _ | (simp; done) | (simp; omega) | omega) (by go_simp) (by go_simp)).mono ?_; rintro e w' ⟨rfl, hb1⟩; obtain ⟨hc1, hf1⟩ := bcell hb1; have hz1 := hb1.size; (try simp at hz1); (try replace hz1 := Nat.lt_of_succ_le hz1)) | go_in)
    all_goals
      obtain ⟨q0, q1⟩ := set2 (W := w') (g := w.heap.size + 1 + 1) (x := .int .u64 0) (y := .int .u64 0) (u := .int .u64 (wiL 0 (r - c))) (v := .int .u64 (wiH 0 (r - c))) (by go_simp) (by go_simp)
      refine bodyPost_ret (v := .agg #[.int .u64 (wiL 0 (r - c)), .int .u64 (wiH 0 (r - c))]) ?_ rfl ⟨rfl, (by repeat (first | exact Below.refl _ _ | assumption | refine Below.alloc ?_ (by first | exact Nat.le_refl _ | (simp; done) | (simp; omega) | omega) _ | refine Below.drew ?_ | refine Below.setCell ?_ (by first | exact Nat.le_refl _ | (simp; done) | (simp; omega) | omega) _ | refine below_call ?_ (by assumption) (by first | exact Nat.le_refl _ | (simp; done) | (simp; omega) | omega)))⟩
      simp [results, Tryd.results149, go_sem, q0, q1]

end Go.Proofs.YtiohiiekaofkbaaDoor

/- Contracts of Counts (the rest) and Sizes. -/
namespace Go.Proofs.YtiohiiekaofkbaaDoor
set_option linter.unusedVariables false
set_option linter.unusedSimpArgs false
open Go.RowKit

set_option maxHeartbeats 1000000 in
theorem counts_one (a b c d r : Int) (w : World) (ha : 1 ≤ a) (ha2 : a ≤ 1099511627776) (hb : 1 ≤ b) (hb2 : b ≤ 9223372036854775807) (h1 : c ≤ r) (h2 : d < 1099511627776) (h3 : d < r) (h4 : 1099511627776 ≤ b) (hc : 0 ≤ c) (hc2 : c ≤ 1099511627776) (hd : 0 ≤ d) (hd2 : d ≤ 9223372036854775807) (hr : 0 ≤ r) (hr2 : r ≤ 1099511627776) (hw : 5 < w.heap.size) (g0 : w.cell? ⟨5, 0, none⟩ = some (.int .u64 1)) (g1 : w.cell? ⟨5, 1, none⟩ = some (.int .u64 0)) :
    Calls Tryd.prog 149 #[.agg #[.int .i64 a, .int .i64 b], .agg #[.int .i64 c, .int .i64 d], .int .i64 r] w fun e w' => e = .returned (.agg #[.int .u64 (wiL 1 ((r - c) / a)), .int .u64 (wiH 1 ((r - c) / a))]) ∧ Below w.heap.size w w' := by
  obtain ⟨hG1, hG2, hG3, hG4, hG5, hG6⟩ := glob_far hw g0; obtain ⟨hH1, hH2, hH3, hH4, hH5, hH6⟩ := glob_far hw g1
  have q0 := Int.ediv_nonneg (a := r - c) (b := a) (by omega) (by omega)
  have q1 : (r - c) / a ≤ r - c := Int.ediv_le_self _ (by omega)
  rcases Int.le_iff_lt_or_eq.mp ha with h | h
  · have hbE : decide (b < 1099511627776) = false := decide_eq_false (by omega)
    go_enter Tryd.func149, Tryd.ntmps149
    go_wp2_with (first | (go_at_call 155; refine (within_any _ _ _ (by omega) (by omega) (by omega) (by omega) (by first | exact Nat.le_refl _ | (simp; done) | (simp; omega) | omega) (by go_simp) (by go_simp)).mono ?_; rintro e w' ⟨rfl, hb1⟩; obtain ⟨hc1, hf1⟩ := bcell hb1; have hz1 := hb1.size; (try simp at hz1); (try replace hz1 := Nat.lt_of_succ_le hz1)) | go_in)
    all_goals
      obtain ⟨q0, q1⟩ := set2 (W := w') (g := w.heap.size + 1 + 1) (x := .int .u64 0) (y := .int .u64 0) (u := .int .u64 (wiL 1 ((r - c) / a))) (v := .int .u64 (wiH 1 ((r - c) / a))) (by go_simp) (by go_simp)
      refine bodyPost_ret (v := .agg #[.int .u64 (wiL 1 ((r - c) / a)), .int .u64 (wiH 1 ((r - c) / a))]) ?_ rfl ⟨rfl, (by repeat (first | exact Below.refl _ _ | assumption | refine Below.alloc ?_ (by first | exact Nat.le_refl _ | (simp; done) | (simp; omega) | omega) _ | refine Below.drew ?_ | refine Below.setCell ?_ (by first | exact Nat.le_refl _ | (simp; done) | (simp; omega) | omega) _ | refine below_call ?_ (by assumption) (by first | exact Nat.le_refl _ | (simp; done) | (simp; omega) | omega)))⟩
      simp [results, Tryd.results149, go_sem, q0, q1]
  · subst h
    have e1 : (r - c) / 1 = r - c := Int.ediv_one _
    rw [e1] at q0 ⊢
    clear q1 e1
    have hbE : decide (b < 1099511627776) = false := decide_eq_false (by omega)
    go_enter Tryd.func149, Tryd.ntmps149
    go_wp2_with (first | (go_at_call 155; refine (within_any _ _ _ (by omega) (by omega) (by omega) (by omega) (by first | exact Nat.le_refl _ | (simp; done) | (simp; omega) | omega) (by go_simp) (by go_simp)).mono ?_; rintro e w' ⟨rfl, hb1⟩; obtain ⟨hc1, hf1⟩ := bcell hb1; have hz1 := hb1.size; (try simp at hz1); (try replace hz1 := Nat.lt_of_succ_le hz1)) | go_in)
    all_goals
      obtain ⟨q0, q1⟩ := set2 (W := w') (g := w.heap.size + 1 + 1) (x := .int .u64 0) (y := .int .u64 0) (u := .int .u64 (wiL 1 (r - c))) (v := .int .u64 (wiH 1 (r - c))) (by go_simp) (by go_simp)
      refine bodyPost_ret (v := .agg #[.int .u64 (wiL 1 (r - c)), .int .u64 (wiH 1 (r - c))]) ?_ rfl ⟨rfl, (by repeat (first | exact Below.refl _ _ | assumption | refine Below.alloc ?_ (by first | exact Nat.le_refl _ | (simp; done) | (simp; omega) | omega) _ | refine Below.drew ?_ | refine Below.setCell ?_ (by first | exact Nat.le_refl _ | (simp; done) | (simp; omega) | omega) _ | refine below_call ?_ (by assumption) (by first | exact Nat.le_refl _ | (simp; done) | (simp; omega) | omega)))⟩
      simp [results, Tryd.results149, go_sem, q0, q1]

set_option maxHeartbeats 1000000 in
theorem counts_div (a b c d r : Int) (w : World) (ha : 1 ≤ a) (ha2 : a ≤ 1099511627776) (hb : 1 ≤ b) (hb2 : b < 1099511627776) (h1 : c ≤ r) (h2 : d < 1099511627776) (h3 : d < r) (h4 : r < 1099511627776) (hc : 0 ≤ c) (hc2 : c ≤ 1099511627776) (hd : 0 ≤ d) (hd2 : d ≤ 9223372036854775807) (hr : 0 ≤ r) (hr2 : r ≤ 1099511627776) (hw : 5 < w.heap.size) (g0 : w.cell? ⟨5, 0, none⟩ = some (.int .u64 1)) (g1 : w.cell? ⟨5, 1, none⟩ = some (.int .u64 0)) :
    Calls Tryd.prog 149 #[.agg #[.int .i64 a, .int .i64 b], .agg #[.int .i64 c, .int .i64 d], .int .i64 r] w fun e w' => e = .returned (.agg #[.int .u64 (wiL ((r - d + b - 1) / b) ((r - c) / a)), .int .u64 (wiH ((r - d + b - 1) / b) ((r - c) / a))]) ∧ Below w.heap.size w w' := by
  obtain ⟨hG1, hG2, hG3, hG4, hG5, hG6⟩ := glob_far hw g0; obtain ⟨hH1, hH2, hH3, hH4, hH5, hH6⟩ := glob_far hw g1
  have q0 := Int.ediv_nonneg (a := r - c) (b := a) (by omega) (by omega)
  have q1 : (r - c) / a ≤ r - c := Int.ediv_le_self _ (by omega)
  have p0 := Int.ediv_nonneg (a := r - d + b - 1) (b := b) (by omega) (by omega)
  have p1 : (r - d + b - 1) / b ≤ r - d + b - 1 := Int.ediv_le_self _ (by omega)
  rcases Int.le_iff_lt_or_eq.mp ha with h | h
  · rcases Int.le_iff_lt_or_eq.mp hb with h' | h'
    · have hbE : decide (b < 1099511627776) = true := decide_eq_true (by omega)
      go_enter Tryd.func149, Tryd.ntmps149
      go_wp2_with (first | (go_at_call 155; refine (within_any _ _ _ (by omega) (by omega) (by omega) (by omega) (by first | exact Nat.le_refl _ | (simp; done) | (simp; omega) | omega) (by go_simp) (by go_simp)).mono ?_; rintro e w' ⟨rfl, hb1⟩; obtain ⟨hc1, hf1⟩ := bcell hb1; have hz1 := hb1.size; (try simp at hz1); (try replace hz1 := Nat.lt_of_succ_le hz1)) | go_in)
      all_goals
        obtain ⟨q0, q1⟩ := set2 (W := w') (g := w.heap.size + 1 + 1) (x := .int .u64 0) (y := .int .u64 0) (u := .int .u64 (wiL ((r - d + b - 1) / b) ((r - c) / a))) (v := .int .u64 (wiH ((r - d + b - 1) / b) ((r - c) / a))) (by go_simp) (by go_simp)
        refine bodyPost_ret (v := .agg #[.int .u64 (wiL ((r - d + b - 1) / b) ((r - c) / a)), .int .u64 (wiH ((r - d + b - 1) / b) ((r - c) / a))]) ?_ rfl ⟨rfl, (by repeat (first | exact Below.refl _ _ | assumption | refine Below.alloc ?_ (by first | exact Nat.le_refl _ | (simp; done) | (simp; omega) | omega) _ | refine Below.drew ?_ | refine Below.setCell ?_ (by first | exact Nat.le_refl _ | (simp; done) | (simp; omega) | omega) _ | refine below_call ?_ (by assumption) (by first | exact Nat.le_refl _ | (simp; done) | (simp; omega) | omega)))⟩
        simp [results, Tryd.results149, go_sem, q0, q1]
    · subst h'
      have e2 : r - d + 1 - 1 = r - d := by omega
      rw [Int.ediv_one] at p0 ⊢
      rw [e2] at p0 ⊢
      clear p1 e2
      go_enter Tryd.func149, Tryd.ntmps149
      go_wp2_with (first | (go_at_call 155; refine (within_any _ _ _ (by omega) (by omega) (by omega) (by omega) (by first | exact Nat.le_refl _ | (simp; done) | (simp; omega) | omega) (by go_simp) (by go_simp)).mono ?_; rintro e w' ⟨rfl, hb1⟩; obtain ⟨hc1, hf1⟩ := bcell hb1; have hz1 := hb1.size; (try simp at hz1); (try replace hz1 := Nat.lt_of_succ_le hz1)) | go_in)
      all_goals
        obtain ⟨q0, q1⟩ := set2 (W := w') (g := w.heap.size + 1 + 1) (x := .int .u64 0) (y := .int .u64 0) (u := .int .u64 (wiL (r - d) ((r - c) / a))) (v := .int .u64 (wiH (r - d) ((r - c) / a))) (by go_simp) (by go_simp)
        refine bodyPost_ret (v := .agg #[.int .u64 (wiL (r - d) ((r - c) / a)), .int .u64 (wiH (r - d) ((r - c) / a))]) ?_ rfl ⟨rfl, (by repeat (first | exact Below.refl _ _ | assumption | refine Below.alloc ?_ (by first | exact Nat.le_refl _ | (simp; done) | (simp; omega) | omega) _ | refine Below.drew ?_ | refine Below.setCell ?_ (by first | exact Nat.le_refl _ | (simp; done) | (simp; omega) | omega) _ | refine below_call ?_ (by assumption) (by first | exact Nat.le_refl _ | (simp; done) | (simp; omega) | omega)))⟩
        simp [results, Tryd.results149, go_sem, q0, q1]
  · subst h
    rw [Int.ediv_one] at q0 ⊢
    clear q1
    rcases Int.le_iff_lt_or_eq.mp hb with h' | h'
    · have hbE : decide (b < 1099511627776) = true := decide_eq_true (by omega)
      go_enter Tryd.func149, Tryd.ntmps149
      go_wp2_with (first | (go_at_call 155; refine (within_any _ _ _ (by omega) (by omega) (by omega) (by omega) (by first | exact Nat.le_refl _ | (simp; done) | (simp; omega) | omega) (by go_simp) (by go_simp)).mono ?_; rintro e w' ⟨rfl, hb1⟩; obtain ⟨hc1, hf1⟩ := bcell hb1; have hz1 := hb1.size; (try simp at hz1); (try replace hz1 := Nat.lt_of_succ_le hz1)) | go_in)
      all_goals
        obtain ⟨q0, q1⟩ := set2 (W := w') (g := w.heap.size + 1 + 1) (x := .int .u64 0) (y := .int .u64 0) (u := .int .u64 (wiL ((r - d + b - 1) / b) (r - c))) (v := .int .u64 (wiH ((r - d + b - 1) / b) (r - c))) (by go_simp) (by go_simp)
        refine bodyPost_ret (v := .agg #[.int .u64 (wiL ((r - d + b - 1) / b) (r - c)), .int .u64 (wiH ((r - d + b - 1) / b) (r - c))]) ?_ rfl ⟨rfl, (by repeat (first | exact Below.refl _ _ | assumption | refine Below.alloc ?_ (by first | exact Nat.le_refl _ | (simp; done) | (simp; omega) | omega) _ | refine Below.drew ?_ | refine Below.setCell ?_ (by first | exact Nat.le_refl _ | (simp; done) | (simp; omega) | omega) _ | refine below_call ?_ (by assumption) (by first | exact Nat.le_refl _ | (simp; done) | (simp; omega) | omega)))⟩
        simp [results, Tryd.results149, go_sem, q0, q1]
    · subst h'
      have e2 : r - d + 1 - 1 = r - d := by omega
      rw [Int.ediv_one] at p0 ⊢
      rw [e2] at p0 ⊢
      clear p1 e2
      go_enter Tryd.func149, Tryd.ntmps149
      go_wp2_with (first | (go_at_call 155; refine (within_any _ _ _ (by omega) (by omega) (by omega) (by omega) (by first | exact Nat.le_refl _ | (simp; done) | (simp; omega) | omega) (by go_simp) (by go_simp)).mono ?_; rintro e w' ⟨rfl, hb1⟩; obtain ⟨hc1, hf1⟩ := bcell hb1; have hz1 := hb1.size; (try simp at hz1); (try replace hz1 := Nat.lt_of_succ_le hz1)) | go_in)
      all_goals
        obtain ⟨q0, q1⟩ := set2 (W := w') (g := w.heap.size + 1 + 1) (x := .int .u64 0) (y := .int .u64 0) (u := .int .u64 (wiL (r - d) (r - c))) (v := .int .u64 (wiH (r - d) (r - c))) (by go_simp) (by go_simp)
        refine bodyPost_ret (v := .agg #[.int .u64 (wiL (r - d) (r - c)), .int .u64 (wiH (r - d) (r - c))]) ?_ rfl ⟨rfl, (by repeat (first | exact Below.refl _ _ | assumption | refine Below.alloc ?_ (by first | exact Nat.le_refl _ | (simp; done) | (simp; omega) | omega) _ | refine Below.drew ?_ | refine Below.setCell ?_ (by first | exact Nat.le_refl _ | (simp; done) | (simp; omega) | omega) _ | refine below_call ?_ (by assumption) (by first | exact Nat.le_refl _ | (simp; done) | (simp; omega) | omega)))⟩
        simp [results, Tryd.results149, go_sem, q0, q1]

theorem counts_any (a b c d r : Int) (w : World) (ha : 1 ≤ a) (ha2 : a ≤ 1099511627776) (hb : 1 ≤ b) (hb2 : b ≤ 9223372036854775807) (hc : 0 ≤ c) (hc2 : c ≤ 1099511627776) (hd : 0 ≤ d) (hd2 : d ≤ 9223372036854775807) (hr : 0 ≤ r) (hr2 : r ≤ 1099511627776) (hw : 5 < w.heap.size) (g0 : w.cell? ⟨5, 0, none⟩ = some (.int .u64 1)) (g1 : w.cell? ⟨5, 1, none⟩ = some (.int .u64 0)) :
    Calls Tryd.prog 149 #[.agg #[.int .i64 a, .int .i64 b], .agg #[.int .i64 c, .int .i64 d], .int .i64 r] w fun e w' => e = .returned (.agg #[.int .u64 (cnL a b c d r), .int .u64 (cnH a b c d r)]) ∧ Below w.heap.size w w' := by
  obtain ⟨hG1, hG2, hG3, hG4, hG5, hG6⟩ := glob_far hw g0; obtain ⟨hH1, hH2, hH3, hH4, hH5, hH6⟩ := glob_far hw g1
  by_cases hn : cnNone b c d r
  · have e1 : cnL a b c d r = 1 := by unfold cnL; rw [if_pos hn]
    have e2 : cnH a b c d r = 0 := by unfold cnH; rw [if_pos hn]
    rw [e1, e2]
    exact counts_none a b c d r w hn hc hc2 hd hd2 hr hr2 hw g0 g1
  · have e1 : cnL a b c d r = wiL (cnLow b c d r) ((r - c) / a) := by unfold cnL cnHigh; rw [if_neg hn]
    have e2 : cnH a b c d r = wiH (cnLow b c d r) ((r - c) / a) := by unfold cnH cnHigh; rw [if_neg hn]
    rw [e1, e2]
    unfold cnNone at hn
    by_cases h1 : hasB c d r = true ∧ (r < 1099511627776 ∨ 1099511627776 ≤ d)
    · have e3 : cnLow b c d r = 0 := by unfold cnLow; rw [if_pos h1]
      rw [e3]
      have h2 := h1.1
      simp only [hasB, decide_eq_true_eq] at h2
      exact counts_in a b c d r w ha ha2 hb hb2 (by omega) h1.2 (by omega) hc hc2 hd hd2 hr hr2 hw g0 g1
    · have h2 : d < 1099511627776 ∧ d < r := by
        simp only [hasB, decide_eq_true_eq] at h1
        omega
      by_cases h3 : 1099511627776 ≤ b
      · have e3 : cnLow b c d r = 1 := by unfold cnLow; rw [if_neg h1, if_pos h3]
        rw [e3]
        exact counts_one a b c d r w ha ha2 hb hb2 (by omega) h2.1 h2.2 h3 hc hc2 hd hd2 hr hr2 hw g0 g1
      · have e3 : cnLow b c d r = (r - d + b - 1) / b := by unfold cnLow; rw [if_neg h1, if_neg h3]
        rw [e3]
        exact counts_div a b c d r w ha ha2 hb (by omega) (by omega) h2.1 h2.2 (by omega) hc hc2 hd hd2 hr hr2 hw g0 g1

end Go.Proofs.YtiohiiekaofkbaaDoor

/- Contract of Fits. -/
namespace Go.Proofs.YtiohiiekaofkbaaDoor
set_option linter.unusedVariables false
set_option linter.unusedSimpArgs false
open Go.RowKit
def fitV (T low lo : Int) : Int := if low < lo then low + (lo - low + T - 1) / T * T else low
def fitOne (T M low : Int) (x : Int × Int) : Bool := decide (x.1 ≤ x.2 ∧ low ≤ M ∧ fitV T low x.1 ≤ x.2 ∧ fitV T low x.1 ≤ M)
def fitsB (T M low : Int) (l : List (Int × Int)) : Bool := l.any (fitOne T M low)

/-- what the walk spells -/
def wrapV (T low lo : Int) : Int := IntKind.u64.wrap (low + IntKind.u64.wrap (IntKind.u64.wrap (IntKind.u64.wrap (lo - low + T) - 1) / T * T))


theorem fitV_ge {T low lo : Int} (h1 : 1 ≤ T) (h : low < lo) : lo ≤ fitV T low lo ∧ fitV T low lo ≤ lo + T - 1 := by
  unfold fitV; rw [if_pos h]
  have a := Int.ediv_mul_le (lo - low + T - 1) (b := T) (by omega)
  have b := Int.lt_ediv_add_one_mul_self (lo - low + T - 1) (b := T) (by omega)
  rw [Int.add_mul, Int.one_mul] at b
  omega

theorem wrapV_eq {T low lo : Int} (h0 : 0 ≤ low) (h1 : 1 ≤ T) (h2 : T ≤ 9223372036854775808) (h3 : low < T) (h : low < lo) (h4 : lo < 9223372036854775808) : wrapV T low lo = fitV T low lo := by
  have g := fitV_ge h1 h
  unfold fitV at *; rw [if_pos h] at *
  unfold wrapV
  have e1 : IntKind.u64.wrap (IntKind.u64.wrap (lo - low + T) - 1) = lo - low + T - 1 := by simp only [wu]; omega
  rw [e1]
  simp only [wu]
  omega

theorem wrapV_bd (T low lo : Int) : 0 ≤ wrapV T low lo := by unfold wrapV; simp only [wu]; omega

theorem one_gt {T M low lo hi : Int} (h0 : 0 ≤ low) (h1 : 1 ≤ T) (h2 : T ≤ 9223372036854775808) (h3 : low < T) (hM : M ≤ 9223372036854775807) (h : low < lo) (hh : lo ≤ hi) (hm : low ≤ M) :
    (lo ≤ wrapV T low lo ∧ wrapV T low lo ≤ if M < hi then M else hi) ↔ fitOne T M low (lo, hi) = true := by
  have g := fitV_ge h1 h
  simp only [fitOne, decide_eq_true_eq]
  by_cases h4 : lo < 9223372036854775808
  · rw [wrapV_eq h0 h1 h2 h3 h h4]
    split <;> omega
  · split <;> omega

theorem one_le {T M low lo hi : Int} (h : lo ≤ low) (hh : lo ≤ hi) (hm : low ≤ M) : (low ≤ if M < hi then M else hi) ↔ fitOne T M low (lo, hi) = true := by
  simp only [fitOne, decide_eq_true_eq, fitV, if_neg (show ¬ low < lo by omega)]
  split <;> omega

theorem one_no {T M low lo hi : Int} (h : ¬ (lo ≤ hi ∧ low ≤ M)) : fitOne T M low (lo, hi) = false := by
  simp only [fitOne, decide_eq_false_iff_not]
  omega

def RangesAt (w : World) (g : Nat) (l : List (Int × Int)) : Prop := ∀ (i : Nat) (h : i < l.length), w.cell? ⟨g, i * 2, none⟩ = some (.int .u64 l[i].1) ∧ w.cell? ⟨g, i * 2 + 1, none⟩ = some (.int .u64 l[i].2) ∧ 0 ≤ l[i].1 ∧ l[i].1 ≤ 18446744073709551615 ∧ 0 ≤ l[i].2 ∧ l[i].2 ≤ 18446744073709551615

theorem any_take {α : Type} (p : α → Bool) (l : List α) (k : Nat) (h : k < l.length) : (l.take (k + 1)).any p = ((l.take k).any p || p l[k]) := by
  rw [List.take_succ_eq_append_getElem h, List.any_append]; simp
theorem any_of_mem {α : Type} (p : α → Bool) (l : List α) (k : Nat) (h : k < l.length) (hp : p l[k] = true) : l.any p = true :=
  List.any_eq_true.mpr ⟨l[k], List.getElem_mem h, hp⟩

set_option maxHeartbeats 2000000 in
theorem fits_low (g : Nat) (cap : Nat) (l : List (Int × Int)) (low shift left bits T B R : Int) (w : World) (hl : l.length ≤ 4611686018427387904) (hg : g < w.heap.size) (hR : Hid (RangesAt w g l)) (hlo : 0 ≤ low) (hlo2 : low < T) (hs : 0 ≤ shift) (hs2 : shift ≤ 63) (hf : 0 ≤ left) (hf2 : left ≤ 9) (hb : 0 ≤ bits) (hb2 : bits ≤ 63) (hT : (2 : Int) ^ shift.toNat = T) (hT2 : T ≤ 9223372036854775808) (hB : (2 : Int) ^ bits.toNat = B) (hB1 : 1 ≤ B) (hB2 : B ≤ 9223372036854775808) (hRR : (2 : Int) ^ (7 * left).toNat = R) (hR1 : 1 ≤ R) (hR2 : R ≤ 9223372036854775808) (hlt : bits ≤ 7 * left + shift) :
    Calls Tryd.prog 146 #[.slice (some ⟨g, 0, none⟩) l.length cap, .int .u64 low, .int .i64 shift, .int .i64 left, .int .i64 bits] w fun e w' => e = .returned (.bool (fitsB T (B - 1) low l)) ∧ Below w.heap.size w w' := by
  go_enter Tryd.func146, Tryd.ntmps146
  go_wp2
  go_step3
  go_wp2
  go_step3
  go_wp2
  go_loopw [42] (fun i wr => ∃ k : Nat, k ≤ l.length ∧ i = .int .i64 k ∧ (l.take k).any (fitOne T (B - 1) low) = false ∧ Below w.heap.size w wr) (fun i wr => l.length - (intOf i).toNat)
  case atStart => exact ⟨0, Nat.zero_le _, rfl, by simp, Below.refl _ _⟩
  case round =>
    obtain ⟨k, hk, rfl, hany, hbel⟩ := hrel
    by_cases hltk : k < l.length
    · obtain ⟨e1, e2, e3, e4, e5, e6⟩ := hR.out k hltk
      have hst := hbel.size
      have f1 := (hbel.cell (p := ⟨g, k * 2, none⟩) hg).trans e1
      have f2 := (hbel.cell (p := ⟨g, k * 2 + 1, none⟩) hg).trans e2
      have hO : ∀ b, fitOne T (B - 1) low (l[k].1, l[k].2) = b → fitOne T (B - 1) low l[k] = b := fun b h => h
      generalize hl1 : l[k].1 = lo at *
      generalize hl2 : l[k].2 = hi at *
      clear e1 e2
      have hgr : g < wr.heap.size := by omega
      have HA := hid hany
      have HO := hid hO
      have HB := hid hbel
      have HG := hid (one_gt (T := T) (M := B - 1) (low := low) (lo := lo) (hi := hi) (by omega) (by omega) (by omega) (by omega) (by omega))
      have HE := hid (one_le (T := T) (M := B - 1) (low := low) (lo := lo) (hi := hi))
      have HN := hid (one_no (T := T) (M := B - 1) (low := low) (lo := lo) (hi := hi))
      clear hany hl1 hl2 hbel hO
      go_wp2
      all_goals first
        | (go_roundw
           case rel =>
             refine ⟨k + 1, by omega, by go_num, ?_, (by repeat (first | exact Below.refl _ _ | assumption | refine Below.alloc ?_ (by first | exact Nat.le_refl _ | (simp; done) | (simp; omega) | omega) _ | refine Below.drew ?_ | refine Below.setCell ?_ (by first | exact Nat.le_refl _ | (simp; done) | (simp; omega) | omega) _ | refine below_call ?_ (by assumption) (by first | exact Nat.le_refl _ | (simp; done) | (simp; omega) | omega)))⟩
             rw [any_take _ _ _ hltk, HA.out, Bool.false_or]
             refine HO.out _ ?_
             first
               | exact HN.out (by omega)
               | (refine Bool.eq_false_iff.mpr (fun q => ?_)
                  first
                    | (have z := (HG.out (by omega) (by omega) (by omega)).mpr q; unfold wrapV at z; omega)
                    | (have z := (HE.out (by omega) (by omega) (by omega)).mpr q; omega))
           case measure => simp [intOf]; omega)
        | (try rw [Exit.noGoto_ret]
           go_ret
           refine ⟨ret_bool (any_of_mem _ l k hltk (HO.out _ ?_)).symm, (by repeat (first | exact Below.refl _ _ | assumption | refine Below.alloc ?_ (by first | exact Nat.le_refl _ | (simp; done) | (simp; omega) | omega) _ | refine Below.drew ?_ | refine Below.setCell ?_ (by first | exact Nat.le_refl _ | (simp; done) | (simp; omega) | omega) _ | refine below_call ?_ (by assumption) (by first | exact Nat.le_refl _ | (simp; done) | (simp; omega) | omega)))⟩
           first
             | (refine (HG.out (by omega) (by omega) (by omega)).mp ?_; unfold wrapV; omega)
             | (refine (HE.out (by omega) (by omega) (by omega)).mp ?_; omega))
    · have hkk : k = l.length := by omega
      have HA := hid hany
      clear hany
      have HK := hid hkk
      clear hkk
      go_wp2
      rw [Exit.noGoto_ret]
      go_ret
      exact ⟨ret_bool (by have h := HA.out; rw [HK.out, List.take_length] at h; exact h.symm), hbel⟩
set_option maxHeartbeats 2000000 in
theorem fits_rest (g : Nat) (cap : Nat) (l : List (Int × Int)) (low shift left bits T B R : Int) (w : World) (hl : l.length ≤ 4611686018427387904) (hg : g < w.heap.size) (hR : Hid (RangesAt w g l)) (hlo : 0 ≤ low) (hlo2 : low < T) (hs : 0 ≤ shift) (hs2 : shift ≤ 63) (hf : 0 ≤ left) (hf2 : left ≤ 9) (hb : 0 ≤ bits) (hb2 : bits ≤ 63) (hT : (2 : Int) ^ shift.toNat = T) (hT2 : T ≤ 9223372036854775808) (hB : (2 : Int) ^ bits.toNat = B) (hB1 : 1 ≤ B) (hB2 : B ≤ 9223372036854775808) (hRR : (2 : Int) ^ (7 * left).toNat = R) (hR1 : 1 ≤ R) (hR2 : R ≤ 9223372036854775808) (P : Int) (hPe : (R - 1) * T = P) (hP0 : 0 ≤ P) (hP1 : low + P ≤ B - 2) (hlt : 7 * left + shift < bits) :
    Calls Tryd.prog 146 #[.slice (some ⟨g, 0, none⟩) l.length cap, .int .u64 low, .int .i64 shift, .int .i64 left, .int .i64 bits] w fun e w' => e = .returned (.bool (fitsB T (low + P) low l)) ∧ Below w.heap.size w w' := by
  go_enter Tryd.func146, Tryd.ntmps146
  go_wp2
  go_step3
  go_wp2
  go_step3
  go_wp2
  go_loopw [42] (fun i wr => ∃ k : Nat, k ≤ l.length ∧ i = .int .i64 k ∧ (l.take k).any (fitOne T (low + P) low) = false ∧ Below w.heap.size w wr) (fun i wr => l.length - (intOf i).toNat)
  case atStart => exact ⟨0, Nat.zero_le _, rfl, by simp, Below.refl _ _⟩
  case round =>
    obtain ⟨k, hk, rfl, hany, hbel⟩ := hrel
    by_cases hltk : k < l.length
    · obtain ⟨e1, e2, e3, e4, e5, e6⟩ := hR.out k hltk
      have hst := hbel.size
      have f1 := (hbel.cell (p := ⟨g, k * 2, none⟩) hg).trans e1
      have f2 := (hbel.cell (p := ⟨g, k * 2 + 1, none⟩) hg).trans e2
      have hO : ∀ b, fitOne T (low + P) low (l[k].1, l[k].2) = b → fitOne T (low + P) low l[k] = b := fun b h => h
      generalize hl1 : l[k].1 = lo at *
      generalize hl2 : l[k].2 = hi at *
      clear e1 e2
      have hgr : g < wr.heap.size := by omega
      have HA := hid hany
      have HO := hid hO
      have HB := hid hbel
      have HG := hid (one_gt (T := T) (M := low + P) (low := low) (lo := lo) (hi := hi) (by omega) (by omega) (by omega) (by omega) (by omega))
      have HE := hid (one_le (T := T) (M := low + P) (low := low) (lo := lo) (hi := hi))
      have HN := hid (one_no (T := T) (M := low + P) (low := low) (lo := lo) (hi := hi))
      clear hany hl1 hl2 hbel hO
      go_wp2
      all_goals first
        | (go_roundw
           case rel =>
             refine ⟨k + 1, by omega, by go_num, ?_, (by repeat (first | exact Below.refl _ _ | assumption | refine Below.alloc ?_ (by first | exact Nat.le_refl _ | (simp; done) | (simp; omega) | omega) _ | refine Below.drew ?_ | refine Below.setCell ?_ (by first | exact Nat.le_refl _ | (simp; done) | (simp; omega) | omega) _ | refine below_call ?_ (by assumption) (by first | exact Nat.le_refl _ | (simp; done) | (simp; omega) | omega)))⟩
             rw [any_take _ _ _ hltk, HA.out, Bool.false_or]
             refine HO.out _ ?_
             first
               | exact HN.out (by omega)
               | (refine Bool.eq_false_iff.mpr (fun q => ?_)
                  first
                    | (have z := (HG.out (by omega) (by omega) (by omega)).mpr q; unfold wrapV at z; omega)
                    | (have z := (HE.out (by omega) (by omega) (by omega)).mpr q; omega))
           case measure => simp [intOf]; omega)
        | (try rw [Exit.noGoto_ret]
           go_ret
           refine ⟨ret_bool (any_of_mem _ l k hltk (HO.out _ ?_)).symm, (by repeat (first | exact Below.refl _ _ | assumption | refine Below.alloc ?_ (by first | exact Nat.le_refl _ | (simp; done) | (simp; omega) | omega) _ | refine Below.drew ?_ | refine Below.setCell ?_ (by first | exact Nat.le_refl _ | (simp; done) | (simp; omega) | omega) _ | refine below_call ?_ (by assumption) (by first | exact Nat.le_refl _ | (simp; done) | (simp; omega) | omega)))⟩
           first
             | (refine (HG.out (by omega) (by omega) (by omega)).mp ?_; unfold wrapV; omega)
             | (refine (HE.out (by omega) (by omega) (by omega)).mp ?_; omega))
    · have hkk : k = l.length := by omega
      have HA := hid hany
      clear hany
      have HK := hid hkk
      clear hkk
      go_wp2
      rw [Exit.noGoto_ret]
      go_ret
      exact ⟨ret_bool (by have h := HA.out; rw [HK.out, List.take_length] at h; exact h.symm), hbel⟩

def mostS (T B R low shift left bits : Int) : Int := if 7 * left + shift < bits then low + (R - 1) * T else B - 1
def fitsI (low shift left bits : Int) (l : List (Int × Int)) : Bool := fitsB (2 ^ shift.toNat) (mostS (2 ^ shift.toNat) (2 ^ bits.toNat) (2 ^ (7 * left).toNat) low shift left bits) low l

theorem pow_bd {n : Int} (h0 : 0 ≤ n) (h : n ≤ 63) : 1 ≤ (2 : Int) ^ n.toNat ∧ (2 : Int) ^ n.toNat ≤ 9223372036854775808 := by
  obtain ⟨k, rfl⟩ : ∃ k : Nat, n = k := ⟨n.toNat, by omega⟩
  have a : (2 : Nat) ^ k ≤ 2 ^ 63 := Nat.pow_le_pow_right (by decide) (by omega)
  have b : 0 < (2 : Nat) ^ k := Nat.pow_pos (by decide)
  have e : ((2 : Int) ^ (k : Int).toNat) = ((2 ^ k : Nat) : Int) := by simp
  rw [e]
  omega

theorem pow_mul_le {a b c : Int} (ha : 0 ≤ a) (hb : 0 ≤ b) (h : a + b < c) : (2 : Int) ^ a.toNat * 2 ^ b.toNat * 2 ≤ 2 ^ c.toNat := by
  obtain ⟨x, rfl⟩ : ∃ k : Nat, a = k := ⟨a.toNat, by omega⟩
  obtain ⟨y, rfl⟩ : ∃ k : Nat, b = k := ⟨b.toNat, by omega⟩
  obtain ⟨z, rfl⟩ : ∃ k : Nat, c = k := ⟨c.toNat, by omega⟩
  have h1 : (2 : Nat) ^ (x + y + 1) ≤ 2 ^ z := Nat.pow_le_pow_right (by decide) (by omega)
  have e : (2 : Int) ^ (x : Int).toNat * 2 ^ (y : Int).toNat * 2 = ((2 ^ (x + y + 1) : Nat) : Int) := by
    simp [Int.pow_add, Int.pow_succ]
  rw [e]
  have e2 : (2 : Int) ^ (z : Int).toNat = ((2 ^ z : Nat) : Int) := by simp
  rw [e2]
  omega

theorem fits_any (g : Nat) (cap : Nat) (l : List (Int × Int)) (low shift left bits : Int) (w : World) (hl : l.length ≤ 4611686018427387904) (hg : g < w.heap.size) (hR : Hid (RangesAt w g l)) (hlo : 0 ≤ low) (hlo2 : low < 2 ^ shift.toNat) (hs : 0 ≤ shift) (hs2 : shift ≤ 63) (hf : 0 ≤ left) (hf2 : left ≤ 9) (hb : 0 ≤ bits) (hb2 : bits ≤ 63) :
    Calls Tryd.prog 146 #[.slice (some ⟨g, 0, none⟩) l.length cap, .int .u64 low, .int .i64 shift, .int .i64 left, .int .i64 bits] w fun e w' => e = .returned (.bool (fitsI low shift left bits l)) ∧ Below w.heap.size w w' := by
  obtain ⟨t1, t2⟩ := pow_bd hs hs2
  obtain ⟨b1, b2⟩ := pow_bd hb hb2
  obtain ⟨r1, r2⟩ := pow_bd (n := 7 * left) (by omega) (by omega)
  by_cases h : 7 * left + shift < bits
  · have h1 := pow_mul_le (a := 7 * left) (b := shift) (c := bits) (by omega) (by omega) h
    have e : fitsI low shift left bits l = fitsB (2 ^ shift.toNat) (low + (2 ^ (7 * left).toNat - 1) * 2 ^ shift.toNat) low l := by unfold fitsI mostS; rw [if_pos h]
    rw [e]
    have h2 : ((2 : Int) ^ (7 * left).toNat - 1) * 2 ^ shift.toNat = 2 ^ (7 * left).toNat * 2 ^ shift.toNat - 2 ^ shift.toNat := by rw [Int.sub_mul, Int.one_mul]
    have h3 : (0 : Int) ≤ (2 ^ (7 * left).toNat - 1) * 2 ^ shift.toNat := Int.mul_nonneg (by omega) (by omega)
    exact fits_rest g cap l low shift left bits _ _ _ w hl hg hR hlo hlo2 hs hs2 hf hf2 hb hb2 rfl t2 rfl b1 b2 rfl r1 r2 _ rfl h3 (by rw [h2] at h3 ⊢; omega) h
  · have e : fitsI low shift left bits l = fitsB (2 ^ shift.toNat) (2 ^ bits.toNat - 1) low l := by unfold fitsI mostS; rw [if_neg h]
    rw [e]
    exact fits_low g cap l low shift left bits _ _ _ w hl hg hR hlo hlo2 hs hs2 hf hf2 hb hb2 rfl t2 rfl b1 b2 rfl r1 r2 (by omega)

/-- no range at all -/
theorem fits_nil (cap : Nat) (A : Option Addr) (low shift left bits : Int) (w : World) (hlo : 0 ≤ low) (hlo2 : low < 2 ^ shift.toNat) (hs : 0 ≤ shift) (hs2 : shift ≤ 63) (hf : 0 ≤ left) (hf2 : left ≤ 9) (hb : 0 ≤ bits) (hb2 : bits ≤ 63) :
    Calls Tryd.prog 146 #[.slice A 0 cap, .int .u64 low, .int .i64 shift, .int .i64 left, .int .i64 bits] w fun e w' => e = .returned (.bool false) ∧ Below w.heap.size w w' := by
  go_enter Tryd.func146, Tryd.ntmps146
  go_wp2
  go_step3
  go_wp2
  all_goals
    go_step3
    go_wp2
    go_loopw [42] (fun i wr => i = .int .i64 0 ∧ Below w.heap.size w wr) (fun i wr => 0)
    case atStart => exact ⟨rfl, Below.refl _ _⟩
    case round =>
      obtain ⟨rfl, hbel⟩ := hrel
      go_wp2
      rw [Exit.noGoto_ret]
      go_ret
      exact ⟨rfl, hbel⟩

end Go.Proofs.YtiohiiekaofkbaaDoor
