/- span's own functions (from seat A.D's texts, by symbols; printed by gen_s.py). -/
import Derived.Test.YtiohiiekaofkbaaDoorB0
import Derived.StillTailTactics
import Derived.Deep.QuietTactic
import Derived.BigQuiet
import Derived.Deep.DeepCutAuto
namespace Go.Proofs.YtiohiiekaofkbaaDoor
set_option linter.unusedVariables false
set_option linter.unusedSimpArgs false
open Go.RowKit
theorem glob_far {w : World} {g i : Nat} {v : Value} (hw : g < w.heap.size) (h : w.cell? ⟨g, i, none⟩ = some v) :
    (∀ o1 o2 o3, (((w.alloc o1).alloc o2).alloc o3).cell? ⟨g, i, none⟩ = some v) ∧ (∀ o1 o2 o3 o4, ((((w.alloc o1).alloc o2).alloc o3).alloc o4).cell? ⟨g, i, none⟩ = some v) ∧ (∀ o1 o2 o3 o4 o5, (((((w.alloc o1).alloc o2).alloc o3).alloc o4).alloc o5).cell? ⟨g, i, none⟩ = some v) ∧ (∀ o1 o2 o3 o4 o5 o6, ((((((w.alloc o1).alloc o2).alloc o3).alloc o4).alloc o5).alloc o6).cell? ⟨g, i, none⟩ = some v) ∧ (∀ o1 o2 o3 o4 o5 o6 o7, (((((((w.alloc o1).alloc o2).alloc o3).alloc o4).alloc o5).alloc o6).alloc o7).cell? ⟨g, i, none⟩ = some v) ∧ (∀ o1 o2 o3 o4 o5 o6 o7 o8, ((((((((w.alloc o1).alloc o2).alloc o3).alloc o4).alloc o5).alloc o6).alloc o7).alloc o8).cell? ⟨g, i, none⟩ = some v) := by
  refine ⟨?_, ?_, ?_, ?_, ?_, ?_⟩ <;> (intros; repeat (rw [World.cell?_alloc_lt _ _ _ (by simp; omega)])) <;> exact h
theorem set2 {W : World} {g : Nat} {u v x y : Value} (h0 : W.cell? ⟨g, 0, none⟩ = some x) (h1 : W.cell? ⟨g, 1, none⟩ = some y) :
    ((W.setCell ⟨g, 0, none⟩ u).setCell ⟨g, 1, none⟩ v).cell? ⟨g, 0, none⟩ = some u ∧ ((W.setCell ⟨g, 0, none⟩ u).setCell ⟨g, 1, none⟩ v).cell? ⟨g, 1, none⟩ = some v := by
  simp only [World.cell?] at h0 h1
  cases hg : W.heap[g]? with
  | none => simp [hg] at h0
  | some o =>
    cases o <;> simp [hg] at h0 h1
    rename_i c e f
    have a0 : 0 < c.size := by
      rcases Nat.lt_or_ge 0 c.size with q | q
      · exact q
      · simp [Array.getElem?_eq_none q] at h0
    have a1 : 1 < c.size := by
      rcases Nat.lt_or_ge 1 c.size with q | q
      · exact q
      · simp [Array.getElem?_eq_none q] at h1
    simp [World.cell?, World.setCell, Array.getElem?_modify, hg, a0, a1]


def wiL (lo hi : Int) : Int := if min hi 4294967295 < lo ∨ hi < 0 then 1 else max 0 lo
def wiH (lo hi : Int) : Int := if min hi 4294967295 < lo ∨ hi < 0 then 0 else min hi 4294967295

set_option maxHeartbeats 400000 in
theorem within_any (lo hi : Int) (w : World) (h1 : -4000000000000000000 ≤ lo) (h2 : lo ≤ 4000000000000000000) (h3 : -4000000000000000000 ≤ hi) (h4 : hi ≤ 9223372036854775807)
    (hw : 5 < w.heap.size) (g0 : w.cell? ⟨5, 0, none⟩ = some (.int .u64 1)) (g1 : w.cell? ⟨5, 1, none⟩ = some (.int .u64 0)) :
    Calls Tryd.prog 155 #[.int .i64 lo, .int .i64 hi] w fun e w' => e = .returned (.agg #[.int .u64 (wiL lo hi), .int .u64 (wiH lo hi)]) ∧ Below w.heap.size w w' := by
  go_enter Tryd.func155, Tryd.ntmps155
  go_wp2
  all_goals (refine bodyPost_ret (v := .agg #[.int .u64 (wiL lo hi), .int .u64 (wiH lo hi)]) ?_ rfl ⟨rfl, (Below.refl _ _).alloc (Nat.le_refl _) _⟩)
  all_goals (simp [results, Tryd.results155, go_sem])
  all_goals (unfold wiL wiH; omega)

theorem bounded_any (a b : Int) (w : World)  :
    Calls Tryd.prog 140 #[.agg #[.int .i64 a, .int .i64 b]] w fun e w' => e = .returned (.bool (decide (b < 1099511627776))) ∧ Below w.heap.size w w' := by
  go_enter Tryd.func140, Tryd.ntmps140
  go_wp2
  go_ret
  exact ⟨rfl, (Below.refl _ _).alloc (Nat.le_refl _) _⟩

def hasB (a b n : Int) : Bool := decide (a ≤ n ∧ (1099511627776 ≤ b ∨ n ≤ b))

theorem has_any (a b n : Int) (w : World)  :
    Calls Tryd.prog 142 #[.agg #[.int .i64 a, .int .i64 b], .int .i64 n] w fun e w' => e = .returned (.bool (hasB a b n)) ∧ Below w.heap.size w w' := by
  go_enter Tryd.func142, Tryd.ntmps142
  go_wp2
  all_goals
    go_ret
    exact ⟨ret_bool (by rw [Bool.eq_iff_iff]; simp [hasB]; omega), (by repeat (first | exact Below.refl _ _ | assumption | refine Below.alloc ?_ (by first | exact Nat.le_refl _ | (simp; done) | (simp; omega) | omega) _ | refine Below.drew ?_ | refine Below.setCell ?_ (by first | exact Nat.le_refl _ | (simp; done) | (simp; omega) | omega) _ | refine below_call ?_ (by assumption) (by first | exact Nat.le_refl _ | (simp; done) | (simp; omega) | omega)))⟩

def rightB (a b : Int) : Bool := decide (0 ≤ a ∧ a ≤ b ∧ a ≤ 274877906944 ∧ (b ≤ 274877906944 ∨ 1099511627776 ≤ b))

def itemB (a b : Int) : Bool := rightB a b && decide (1 ≤ a ∧ a ≤ 31 ∧ (b ≤ 31 ∨ 1099511627776 ≤ b))

end Go.Proofs.YtiohiiekaofkbaaDoor
