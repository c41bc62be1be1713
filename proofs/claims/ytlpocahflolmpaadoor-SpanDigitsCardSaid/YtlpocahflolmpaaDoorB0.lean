/- Contracts of the small functions of layer span and of its reference (no loops). -/
import Derived.Test.YtlpocahflolmpaaDoorProg
import Derived.WalkKit
import Derived.WalkSpells
import Derived.WalkLawsBesides
import Derived.Below
import Derived.Outline
namespace Go.Proofs.YtlpocahflolmpaaDoor
open Go.RowKit

theorem hid {p : Prop} (h : p) : Hid p := h
theorem ret_bool {a b : Bool} (h : a = b) : Ending.returned (.bool a) = .returned (.bool b) := by rw [h]
theorem ret_int {k : IntKind} {a b : Int} (h : a = b) : Ending.returned (.int k a) = .returned (.int k b) := by rw [h]

theorem bcell {W w1 : World} (hb : Below W.heap.size W w1) : (∀ b o, b < W.heap.size → w1.cell? ⟨b, o, none⟩ = W.cell? ⟨b, o, none⟩) ∧ (∀ b o, b < W.heap.size → w1.frozen? ⟨b, o, none⟩ = W.frozen? ⟨b, o, none⟩) :=
  ⟨fun b o h => hb.cell (p := ⟨b, o, none⟩) h, fun b o h => hb.frozen (p := ⟨b, o, none⟩) h⟩

theorem cell_lt {w : World} {g o : Nat} {v : Value} (h : w.cell? ⟨g, o, none⟩ = some v) : g < w.heap.size := by
  rcases Nat.lt_or_ge g w.heap.size with q | q
  · exact q
  · simp [World.cell?, Array.getElem?_eq_none q] at h

theorem set2 {W : World} {g : Nat} {u v x y : Value} (h0 : W.cell? ⟨g, 0, none⟩ = some x) (h1 : W.cell? ⟨g, 1, none⟩ = some y) :
    ((W.setCell ⟨g, 0, none⟩ u).setCell ⟨g, 1, none⟩ v).cell? ⟨g, 0, none⟩ = some u ∧ ((W.setCell ⟨g, 0, none⟩ u).setCell ⟨g, 1, none⟩ v).cell? ⟨g, 1, none⟩ = some v := by
  simp only [World.cell?] at h0 h1
  cases hg : W.heap[g]? with
  | none => simp [hg] at h0
  | some o =>
    cases o <;> simp [hg] at h0 h1
    rename_i c e f
    have a0 : 0 < c.size := by
      rcases Nat.lt_or_ge 0 c.size with q | q
      · exact q
      · simp [Array.getElem?_eq_none q] at h0
    have a1 : 1 < c.size := by
      rcases Nat.lt_or_ge 1 c.size with q | q
      · exact q
      · simp [Array.getElem?_eq_none q] at h1
    simp [World.cell?, World.setCell, Array.getElem?_modify, hg, a0, a1]

theorem below_call {B : Nat} {w W w1 : World} (h : Below B w W) (hb : Below W.heap.size W w1) (hB : B ≤ W.heap.size) : Below B w w1 := h.trans (hb.mono hB)

/-- within -/
def wiL (lo hi : Int) : Int := if min hi 4294967295 < lo ∨ hi < 0 then 1 else max 0 lo
def wiH (lo hi : Int) : Int := if min hi 4294967295 < lo ∨ hi < 0 then 0 else min hi 4294967295

set_option maxHeartbeats 400000 in
theorem within_any (lo hi : Int) (w : World) (h1 : -4000000000000000000 ≤ lo) (h2 : lo ≤ 4000000000000000000) (h3 : -4000000000000000000 ≤ hi) (h4 : hi ≤ 9223372036854775807)
    (hw : 0 < w.heap.size) (g0 : w.cell? ⟨0, 0, none⟩ = some (.int .u64 1)) (g1 : w.cell? ⟨0, 1, none⟩ = some (.int .u64 0)) :
    Calls Tryd.prog 28 #[.int .i64 lo, .int .i64 hi] w fun e w' => e = .returned (.agg #[.int .u64 (wiL lo hi), .int .u64 (wiH lo hi)]) ∧ Below w.heap.size w w' := by
  go_enter Tryd.func28, Tryd.ntmps28
  go_wp2
  all_goals (refine bodyPost_ret (v := .agg #[.int .u64 (wiL lo hi), .int .u64 (wiH lo hi)]) ?_ rfl ⟨rfl, (Below.refl _ _).alloc (Nat.le_refl _) _⟩)
  all_goals (simp [results, Tryd.results28, go_sem])
  all_goals (unfold wiL wiH; omega)

theorem bounded_any (a b : Int) (w : World)  :
    Calls Tryd.prog 27 #[.agg #[.int .i64 a, .int .i64 b]] w fun e w' => e = .returned (.bool (decide (b < 1099511627776))) ∧ Below w.heap.size w w' := by
  go_enter Tryd.func27, Tryd.ntmps27
  go_wp2
  go_ret
  exact ⟨rfl, (Below.refl _ _).alloc (Nat.le_refl _) _⟩

def hasB (a b n : Int) : Bool := decide (a ≤ n ∧ (1099511627776 ≤ b ∨ n ≤ b))

theorem has_any (a b n : Int) (w : World)  :
    Calls Tryd.prog 21 #[.agg #[.int .i64 a, .int .i64 b], .int .i64 n] w fun e w' => e = .returned (.bool (hasB a b n)) ∧ Below w.heap.size w w' := by
  go_enter Tryd.func21, Tryd.ntmps21
  go_wp2
  all_goals
    go_ret
    exact ⟨ret_bool (by rw [Bool.eq_iff_iff]; simp [hasB]; omega), (by repeat (first | exact Below.refl _ _ | assumption | refine Below.alloc ?_ (by first | exact Nat.le_refl _ | (simp; done) | (simp; omega) | omega) _ | refine Below.drew ?_ | refine Below.setCell ?_ (by first | exact Nat.le_refl _ | (simp; done) | (simp; omega) | omega) _ | refine below_call ?_ (by assumption) (by first | exact Nat.le_refl _ | (simp; done) | (simp; omega) | omega)))⟩

theorem rhas_any (a b n : Int) (w : World)  :
    Calls Tryd.prog 22 #[.agg #[.int .i64 a, .int .i64 b], .int .i64 n] w fun e w' => e = .returned (.bool (hasB a b n)) ∧ Below w.heap.size w w' := by
  go_enter Tryd.func22, Tryd.ntmps22
  go_wp2
  all_goals
    go_ret
    exact ⟨ret_bool (by rw [Bool.eq_iff_iff]; simp [hasB]; omega), (by repeat (first | exact Below.refl _ _ | assumption | refine Below.alloc ?_ (by first | exact Nat.le_refl _ | (simp; done) | (simp; omega) | omega) _ | refine Below.drew ?_ | refine Below.setCell ?_ (by first | exact Nat.le_refl _ | (simp; done) | (simp; omega) | omega) _ | refine below_call ?_ (by assumption) (by first | exact Nat.le_refl _ | (simp; done) | (simp; omega) | omega)))⟩

def rightB (a b : Int) : Bool := decide (0 ≤ a ∧ a ≤ b ∧ a ≤ 274877906944 ∧ (b ≤ 274877906944 ∨ 1099511627776 ≤ b))

theorem right_any (a b : Int) (w : World)  :
    Calls Tryd.prog 9 #[.agg #[.int .i64 a, .int .i64 b]] w fun e w' => e = .returned (.bool (rightB a b)) ∧ Below w.heap.size w w' := by
  go_enter Tryd.func9, Tryd.ntmps9
  go_wp2
  all_goals
    go_ret
    exact ⟨ret_bool (by rw [Bool.eq_iff_iff]; simp [rightB]; omega), (by repeat (first | exact Below.refl _ _ | assumption | refine Below.alloc ?_ (by first | exact Nat.le_refl _ | (simp; done) | (simp; omega) | omega) _ | refine Below.drew ?_ | refine Below.setCell ?_ (by first | exact Nat.le_refl _ | (simp; done) | (simp; omega) | omega) _ | refine below_call ?_ (by assumption) (by first | exact Nat.le_refl _ | (simp; done) | (simp; omega) | omega)))⟩

def itemB (a b : Int) : Bool := rightB a b && decide (1 ≤ a ∧ a ≤ 31 ∧ (b ≤ 31 ∨ 1099511627776 ≤ b))

theorem item_any (a b : Int) (w : World)  :
    Calls Tryd.prog 8 #[.agg #[.int .i64 a, .int .i64 b]] w fun e w' => e = .returned (.bool (itemB a b)) ∧ Below w.heap.size w w' := by
  go_enter Tryd.func8, Tryd.ntmps8
  go_wp2
  all_goals
    go_ret
    exact ⟨ret_bool (by rw [Bool.eq_iff_iff]; simp [itemB, rightB]; omega), (by repeat (first | exact Below.refl _ _ | assumption | refine Below.alloc ?_ (by first | exact Nat.le_refl _ | (simp; done) | (simp; omega) | omega) _ | refine Below.drew ?_ | refine Below.setCell ?_ (by first | exact Nat.le_refl _ | (simp; done) | (simp; omega) | omega) _ | refine below_call ?_ (by assumption) (by first | exact Nat.le_refl _ | (simp; done) | (simp; omega) | omega)))⟩

theorem own_any (a b : Int) (w : World)  :
    Calls Tryd.prog 11 #[.agg #[.int .i64 a, .int .i64 b]] w fun e w' => e = .returned (.agg #[.int .i64 a, .int .i64 b]) ∧ Below w.heap.size w w' := by
  go_enter Tryd.func11, Tryd.ntmps11
  go_wp2
  refine bodyPost_ret (v := .agg #[.int .i64 a, .int .i64 b]) ?_ rfl ⟨rfl, (by repeat (first | exact Below.refl _ _ | assumption | refine Below.alloc ?_ (by first | exact Nat.le_refl _ | (simp; done) | (simp; omega) | omega) _ | refine Below.drew ?_ | refine Below.setCell ?_ (by first | exact Nat.le_refl _ | (simp; done) | (simp; omega) | omega) _ | refine below_call ?_ (by assumption) (by first | exact Nat.le_refl _ | (simp; done) | (simp; omega) | omega)))⟩
  simp [results, Tryd.results11, go_sem]

end Go.Proofs.YtlpocahflolmpaaDoor
