/- The cursor's place; may a rest be reached; a last byte with a sign. -/
import Derived.Test.YtiohiiekaofkbaaDoorC3
namespace Go.Proofs.YtiohiiekaofkbaaDoor
set_option linter.unusedVariables false
set_option linter.unusedSimpArgs false
open Go.RowKit

set_option maxHeartbeats 1000000 in
theorem at_walk (g : Nat) (sl : Value) (p lim : Int) (w : World) (h : Cu g sl p lim w) : Calls Tryd.prog 114 #[.pointer (some ⟨g, 0, none⟩)] w (fun e w' => e = .returned (.int .i64 p) ∧ Below w.heap.size w w') := by
  obtain ⟨c0, c1, c2, f1, f2⟩ := h
  go_enter Tryd.func114, Tryd.ntmps114
  go_wp2
  go_ret
  exact ⟨rfl, (by repeat (first | exact Below.refl _ _ | assumption | refine Below.alloc ?_ (by first | exact Nat.le_refl _ | (simp; done) | (simp; omega) | omega) _ | refine Below.drew ?_ | refine Below.setCell ?_ (by first | exact Nat.le_refl _ | (simp; done) | (simp; omega) | omega) _ | refine below_call ?_ (by assumption) (by first | exact Nat.le_refl _ | (simp; done) | (simp; omega) | omega)))⟩
/-- may a rest behind 1 to n bytes more be in a span -/
def reachN (a b p lim : Int) : Nat → Bool
  | 0 => false
  | n + 1 => reachN a b p lim n || (decide (0 ≤ wiR p lim (n + 1 : Nat)) && chB a b (wiR p lim (n + 1 : Nat)))
theorem reachN_mono {a b p lim : Int} {i n : Nat} (h : reachN a b p lim i = true) (hi : i ≤ n) : reachN a b p lim n = true := by
  induction n with
  | zero => have : i = 0 := by omega
            subst this; exact h
  | succ n ih => rcases Nat.lt_or_ge i (n + 1) with q | q
                 · rw [reachN, ih (by omega), Bool.true_or]
                 · have : i = n + 1 := by omega
                   subst this; exact h
theorem reachN_step {a b p lim : Int} {j : Nat} (j0 : 1 ≤ j) (h : reachN a b p lim (j - 1) = false) : reachN a b p lim j = (decide (0 ≤ wiR p lim j) && chB a b (wiR p lim j)) := by
  obtain ⟨i, rfl⟩ : ∃ i, j = i + 1 := ⟨j - 1, by omega⟩
  rw [reachN, show reachN a b p lim i = false from h, Bool.false_or]
set_option maxHeartbeats 4000000 in
theorem reach_walk (g : Nat) (A : Option Addr) (c : Nat) (l : List Int) (p lim : Int) (w : World) (a b : Int) (n : Nat) (h : CB g A c l p lim w) (hn : n ≤ 20) :
    Calls Tryd.prog 150 #[.pointer (some ⟨g, 0, none⟩), .agg #[.int .i64 a, .int .i64 b], .int .i64 n] w (fun e w' => e = .returned (.bool (reachN a b p lim n)) ∧ Below w.heap.size w w') := by
  have HC := hid h
  have hlt := h.cu.lt
  clear h
  go_enter Tryd.func150, Tryd.ntmps150
  go_wp2
  go_loopw [7] (fun v7 wr => ∃ j : Nat, v7 = .int .i64 j ∧ 1 ≤ j ∧ j ≤ n + 1 ∧ Hid (reachN a b p lim (j - 1) = false) ∧ w.heap.size < wr.heap.size ∧ wr.cell? ⟨w.heap.size, 0, none⟩ = some (.int .i64 a) ∧ wr.cell? ⟨w.heap.size, 1, none⟩ = some (.int .i64 b) ∧ Hid (Below w.heap.size w wr)) (fun v7 _ => n + 1 - (intOf v7).toNat)
  case atStart => exact ⟨1, by go_num, by omega, by omega, hid rfl, by simp, by go_simp, by go_simp, hid (by repeat (first | exact Below.refl _ _ | assumption | refine Below.alloc ?_ (by first | exact Nat.le_refl _ | (simp; done) | (simp; omega) | omega) _ | refine Below.drew ?_ | refine Below.setCell ?_ (by first | exact Nat.le_refl _ | (simp; done) | (simp; omega) | omega) _ | refine below_call ?_ (by assumption) (by first | exact Nat.le_refl _ | (simp; done) | (simp; omega) | omega)))⟩
  case round =>
    obtain ⟨j, rfl, j0, j1, HO, hsz, b0, b1, HB⟩ := hrel
    by_cases hlt2 : j ≤ n
    · have hlt' : (j : Int) ≤ (n : Int) := by omega
      have HST := hid (reachN_step j0 HO.out)
      rcases hr : decide (0 ≤ wiR p lim j) with _ | _
      · have hr' : ¬ 0 ≤ wiR p lim j := of_decide_eq_false hr
        have HF := hid (show reachN a b p lim j = false by rw [HST.out, hr, Bool.false_and])
        clear hr
        go_wp2_with (first | (go_at_call 165; refine (cwithin_any HC.out _ (by omega) (by omega) _ HB.out).mono ?_; rintro e w1 ⟨rfl, hb1⟩; have b0 := still hb1 b0; have b1 := still hb1 b1))
        go_roundw
        case rel => exact ⟨j + 1, by go_num, by omega, by omega, hid (by simpa using HF.out), Nat.lt_of_lt_of_le hsz hb1.size, b0, b1, hid (HB.out.trans (hb1.mono HB.out.size))⟩
        case measure => simp [intOf]; omega
      · have hr' : 0 ≤ wiR p lim j := of_decide_eq_true hr
        have HCH := hid (fun W => chas_any a b (wiR p lim j) W)
        rcases hf : chB a b (wiR p lim j) with _ | _
        · have HF := hid (show reachN a b p lim j = false by rw [HST.out, hf, Bool.and_false])
          rw [hf] at HCH
          clear hr hf
          go_wp2_with (first | (go_at_call 165; refine (cwithin_any HC.out _ (by omega) (by omega) _ HB.out).mono ?_; rintro e w1 ⟨rfl, hb1⟩; have b0 := still hb1 b0; have b1 := still hb1 b1) | (go_at_call 152; (with_reducible refine (HCH.out _).mono ?_); rintro e w2 ⟨rfl, hb2⟩; have b0 := still hb2 b0; have b1 := still hb2 b1))
          go_roundw
          case rel => exact ⟨j + 1, by go_num, by omega, by omega, hid (by simpa using HF.out), Nat.lt_of_lt_of_le hsz (Nat.le_trans hb1.size hb2.size), b0, b1, hid (HB.out.trans ((hb1.trans (hb2.mono hb1.size)).mono HB.out.size))⟩
          case measure => simp [intOf]; omega
        · have HF := hid (reachN_mono (i := j) (n := n) (show reachN a b p lim j = true by rw [HST.out, hr, hf]; rfl) hlt2)
          rw [hf] at HCH
          clear hr hf
          go_wp2_with (first | (go_at_call 165; refine (cwithin_any HC.out _ (by omega) (by omega) _ HB.out).mono ?_; rintro e w1 ⟨rfl, hb1⟩; have b0 := still hb1 b0; have b1 := still hb1 b1) | (go_at_call 152; (with_reducible refine (HCH.out _).mono ?_); rintro e w2 ⟨rfl, hb2⟩))
          go_ret
          exact ⟨ret_bool HF.out.symm, HB.out.trans ((hb1.trans (hb2.mono hb1.size)).mono HB.out.size)⟩
    · go_wp2
      go_ret
      exact ⟨ret_bool (by have : j = n + 1 := by omega
                          subst this; exact HO.out.symm), HB.out⟩
end Go.Proofs.YtiohiiekaofkbaaDoor
