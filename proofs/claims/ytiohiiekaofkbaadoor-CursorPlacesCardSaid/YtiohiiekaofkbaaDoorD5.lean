/- dobbylaw02.Own, dobbyref02.Has, dobbyref04.Has; number. -/
import Derived.Test.YtiohiiekaofkbaaDoorD1
namespace Go.Proofs.YtiohiiekaofkbaaDoor
set_option linter.unusedVariables false
set_option linter.unusedSimpArgs false
open Go.RowKit

set_option maxHeartbeats 1000000 in
theorem own02_any (a b : Int) (w : World) :
    Calls Tryd.prog 110 #[.agg #[.int .i64 a, .int .i64 b]] w fun e w' => e = .returned (.agg #[.int .i64 a, .int .i64 b]) ∧ Below w.heap.size w w' := by
  go_enter Tryd.func110, Tryd.ntmps110
  go_wp2
  obtain ⟨q0, q1⟩ := set2 (W := (w.alloc (.cells #[.int .i64 a, .int .i64 b] 149)).alloc (.cells #[.int .i64 0, .int .i64 0] 85)) (g := w.heap.size + 1) (x := .int .i64 0) (y := .int .i64 0) (u := .int .i64 a) (v := .int .i64 b) (by go_simp) (by go_simp)
  refine bodyPost_ret (v := .agg #[.int .i64 a, .int .i64 b]) ?_ rfl ⟨rfl, (by repeat (first | exact Below.refl _ _ | assumption | refine Below.alloc ?_ (by first | exact Nat.le_refl _ | (simp; done) | (simp; omega) | omega) _ | refine Below.drew ?_ | refine Below.setCell ?_ (by first | exact Nat.le_refl _ | (simp; done) | (simp; omega) | omega) _ | refine below_call ?_ (by assumption) (by first | exact Nat.le_refl _ | (simp; done) | (simp; omega) | omega)))⟩
  simp [results, Tryd.results110, go_sem, q0, q1]
set_option maxHeartbeats 1000000 in
theorem r2has_any (a b n : Int) (w : World)  :
    Calls Tryd.prog 166 #[.agg #[.int .i64 a, .int .i64 b], .int .i64 n] w fun e w' => e = .returned (.bool (hasB a b n)) ∧ Below w.heap.size w w' := by
  go_enter Tryd.func166, Tryd.ntmps166
  go_wp2
  all_goals
    go_ret
    exact ⟨ret_bool (by rw [Bool.eq_iff_iff]; simp [hasB]; omega), (by repeat (first | exact Below.refl _ _ | assumption | refine Below.alloc ?_ (by first | exact Nat.le_refl _ | (simp; done) | (simp; omega) | omega) _ | refine Below.drew ?_ | refine Below.setCell ?_ (by first | exact Nat.le_refl _ | (simp; done) | (simp; omega) | omega) _ | refine below_call ?_ (by assumption) (by first | exact Nat.le_refl _ | (simp; done) | (simp; omega) | omega)))⟩
set_option maxHeartbeats 1000000 in
theorem r4has_any (a b r : Int) (w : World) (h0 : 0 ≤ r) :
    Calls Tryd.prog 148 #[.agg #[.int .i64 a, .int .i64 b], .int .i64 r] w fun e w' => e = .returned (.bool (chB a b r)) ∧ Below w.heap.size w w' := by
  by_cases h : 1099511627776 ≤ r
  · go_enter Tryd.func148, Tryd.ntmps148
    go_wp2
    go_ret
    exact ⟨ret_bool (by rw [chB, if_pos h]), (by repeat (first | exact Below.refl _ _ | assumption | refine Below.alloc ?_ (by first | exact Nat.le_refl _ | (simp; done) | (simp; omega) | omega) _ | refine Below.drew ?_ | refine Below.setCell ?_ (by first | exact Nat.le_refl _ | (simp; done) | (simp; omega) | omega) _ | refine below_call ?_ (by assumption) (by first | exact Nat.le_refl _ | (simp; done) | (simp; omega) | omega)))⟩
  · have e : chB a b r = hasB a b r := by rw [chB, if_neg h]
    rw [e]
    clear e
    go_enter Tryd.func148, Tryd.ntmps148
    go_wp2_with (first | (go_at_call 166; refine (r2has_any _ _ _ _).mono ?_; rintro e w' ⟨rfl, hb1⟩; (first | have hq1 := hz1 | have hq1 := True.intro); (first | have hq0 := hz0 | have hq0 := True.intro); obtain ⟨hcc, hff⟩ := bcell hb1; have hz1 := hb1.size; (try simp at hz1); (try have hy1 := Nat.lt_of_lt_of_le hq1 hz1); (try have hy0 := Nat.lt_of_lt_of_le hq0 hz1); (try replace hz1 := Nat.lt_of_succ_le hz1); (try have hz0 := Nat.lt_of_succ_lt hz1)))
    go_ret
    exact ⟨rfl, (by repeat (first | exact Below.refl _ _ | assumption | refine Below.alloc ?_ (by first | exact Nat.le_refl _ | (simp; done) | (simp; omega) | omega) _ | refine Below.drew ?_ | refine Below.setCell ?_ (by first | exact Nat.le_refl _ | (simp; done) | (simp; omega) | omega) _ | refine below_call ?_ (by assumption) (by first | exact Nat.le_refl _ | (simp; done) | (simp; omega) | omega)))⟩
set_option maxRecDepth 100000 in
set_option maxHeartbeats 1000000 in
/-- a number as bytes: some text -/
theorem number_any (n : Int) (w : World) :
    Calls Tryd.prog 106 #[.int .u64 n] w fun e w' => (∃ s, e = .returned (.string s)) ∧ Below w.heap.size w w' := by
  go_enter Tryd.func106, Tryd.ntmps106
  go_wp2
  go_loopw [3, 4] (fun v3 v4 wr => ∃ (s : ByteArray) (i : Nat), v3 = .string s ∧ s.size = i ∧ v4 = .int .i64 i ∧ i ≤ 8 ∧ Hid (Below w.heap.size w wr)) (fun _ v4 _ => 8 - (intOf v4).toNat)
  case atStart => exact ⟨⟨#[]⟩, 0, rfl, rfl, by go_num, by omega, hid (Below.refl _ _)⟩
  case round =>
    obtain ⟨s, i, rfl, hs, rfl, hi, HB⟩ := hrel
    by_cases hlt : (i : Int) < 8
    · have HCV : ∀ x, (convert 70 9 (.slice (some ⟨wr.heap.size, 0, none⟩) 1 1)).run Tryd.prog (wr.alloc (.cells #[.int .u8 x] 5)) = .ok (.string (strOfNums [x])) (wr.alloc (.cells #[.int .u8 x] 5)) := fun x => conv_cells (l := [x]) (ad := ⟨wr.heap.size, 0, none⟩) (by
        intro j y hj
        rcases j with _ | j
        · simp at hj; subst hj; go_simp
        · simp at hj) 1
      have hs1 : ∀ x, (strOfNums [x]).size = 1 := fun x => by simp [strOfNums, ByteArray.size]
      go_wp2_with (fail)
      go_roundw
      case rel => exact ⟨_, i + 1, rfl, by rw [ByteArray.size_append, hs1, hs], by go_num, by omega, hid (HB.out.alloc HB.out.size _)⟩
      case measure => simp [intOf]; omega
    · go_wp2
      go_ret
      exact ⟨⟨_, rfl⟩, HB.out⟩
end Go.Proofs.YtiohiiekaofkbaaDoor
