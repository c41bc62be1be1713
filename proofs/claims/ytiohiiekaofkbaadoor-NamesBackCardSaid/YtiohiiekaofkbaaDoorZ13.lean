/- Texts of this claim, as far as they are used here: PNamesBackx13, PNamesBackx14. -/
import Derived.Test.YtiohiiekaofkbaaDoorZ04
import Derived.Test.YtiohiiekaofkbaaDoorZ12
/- Printed for this claim. -/
namespace Go.Proofs.YtiohiiekaofkbaaDoor.PNamesBack
open Go.RowKit Go.Proofs.YtiohiiekaofkbaaDoorW.PrintWords Go.Proofs.YtiohiiekaofkbaaDoorW.PrintLast Go.Proofs.YtiohiiekaofkbaaDoorW.PrintMore
attribute [local go_sem] max2_int min2_int max_two min_two max_three min_three max_four min_four
set_option linter.unusedVariables false
set_option linter.unusedSimpArgs false
attribute [local go_sem high] eqA101
def dobbyref14_alike.l0 : Nat → List (S101) → List (S101) → Int → Option (Bool)
  | 0, _, _, _ => none
  | k + 1, x0, x1, x5 => if x5 < (x0.length : Int) then (if 0 ≤ x5 then (if x5 < (x1.length : Int) then (if (!(((rd_T101 x0 x5).f0) == ((rd_T101 x1 x5).f0)) || (!((((rd_T101 x0 x5).f1).toList) == (((rd_T101 x1 x5).f1).toList)))) = true then (some false) else (dobbyref14_alike.l0 k x0 x1 (wrap64 (x5 + 1)))) else (none)) else (none)) else (some true)
def dobbyref14_alike.f (k : Nat) (l0 : List (S101)) (l1 : List (S101)) : Option (Bool) := if (l0.length : Int) = (l1.length : Int) then (dobbyref14_alike.l0 k l0 l1 0) else (some false)
theorem dobbyref14_alike.mono_l : ∀ k, (∀ y0 y1 y2, LeO (dobbyref14_alike.l0 k y0 y1 y2) (dobbyref14_alike.l0 (k + 1) y0 y1 y2))
  | 0 => fun _ _ _ r h => by simp [dobbyref14_alike.l0] at h
  | k + 1 => by
    have ih0 := dobbyref14_alike.mono_l k
    · intro y0 y1 y2
      unfold dobbyref14_alike.l0
      repeat' first
      | (with_reducible exact ih0 _ _ _)
      | (with_reducible exact LeO.refl _)
      | (with_reducible exact LeO.none _)
      | (with_reducible refine LeO.ite ?_ ?_)
      | (with_reducible refine LeO.bind ?_ (fun _ => ?_))
      | exact ih0 _ _ _
      | exact LeO.none _
      | refine LeO.ite ?_ ?_
      | refine LeO.bind ?_ (fun _ => ?_)
theorem dobbyref14_alike.mono : ∀ a0 a1 k, LeO (dobbyref14_alike.f k a0 a1) (dobbyref14_alike.f (k + 1) a0 a1) := by
  intro a0 a1 k
  have ih0 := dobbyref14_alike.mono_l k
  unfold dobbyref14_alike.f
  repeat' first
      | (with_reducible exact ih0 _ _ _)
      | (with_reducible exact LeO.refl _)
      | (with_reducible exact LeO.none _)
      | (with_reducible refine LeO.ite ?_ ?_)
      | (with_reducible refine LeO.bind ?_ (fun _ => ?_))
      | exact ih0 _ _ _
      | exact LeO.none _
      | refine LeO.ite ?_ ?_
      | refine LeO.bind ?_ (fun _ => ?_)
set_option maxHeartbeats 8000000 in
set_option maxRecDepth 100000 in
theorem dobbyref14_alike.calls (k : Nat) (A0 : Option Addr) (c0 : Nat) (l0 : List (S101)) (A1 : Option Addr) (c1 : Nat) (l1 : List (S101)) (r : Bool) (w : World) (hr0 : Kd.C k101 w A0 l0.length l0) (hc0 : l0.length ≤ c0) (hr1 : Kd.C k101 w A1 l1.length l1) (hc1 : l1.length ≤ c1) (h : dobbyref14_alike.f k l0 l1 = some r) :
    Calls Tryd.prog 70 #[.slice A0 l0.length c0, .slice A1 l1.length c1] w fun e w' => e = .returned (.bool r) ∧ Drawn0 w w' := by
  have hu101 := Tryd.underlying101
  have HR0 := Aside0.mk hr0
  have HC0 := Aside0.mk hc0
  clear hr0 hc0
  have HR1 := Aside0.mk hr1
  have HC1 := Aside0.mk hc1
  clear hr1 hc1
  have H : (if (l0.length : Int) = (l1.length : Int) then (dobbyref14_alike.l0 k l0 l1 0) else (some false)) = some r := h
  clear h
  by_cases c3 : (l0.length : Int) = (l1.length : Int)
  · rw [if_pos c3] at H
    have c3b0 : ((l0.length : Int) == (l1.length : Int)) = true := beq_iff_eq.mpr c3
    have c3b1 : ((l0.length : Int) != (l1.length : Int)) = false := bne_eq_false_iff_eq.mpr c3
    have c3b2 : (l0.length == l1.length) = true := by first | simpa using c3 | (simp at c3 ⊢; omega)
    clear c3
    have H' := Aside0.mk H
    clear H
    go_enter Tryd.func70, Tryd.ntmps70
    go_wp2
    repeat (go_quiet (fail); try go_wp2)
    go_loopg [5] k (fun kq v5 w' => ∃ (x5_1 : Int), v5 = .int .i64 x5_1 ∧ Aside0 (dobbyref14_alike.l0 kq l0 l1 x5_1 = some r) ∧ Aside0 (kq ≤ k) ∧ Drawn0 w w')
    case atStart => exact ⟨(0), (by first | rfl | (simp; done) | (simp [*]; done)), H', ⟨Nat.le_refl _⟩, by repeat (first | exact Drawn0.refl _ | apply Drawn0.step)⟩
    case round =>
      clear H'
      try clear c1
      try clear p2
      try clear c3
      try clear c3b0
      try clear c3b1
      try clear c3b2
      obtain ⟨x5_1, rfl, HA, HK1, ⟨m1, rfl⟩⟩ := hrel
      cases gk with
      | zero => exact absurd HA.out (by simp [dobbyref14_alike.l0])
      | succ k1 =>
        have H := HA.out
        clear HA
        simp only [dobbyref14_alike.l0] at H
        by_cases c4 : x5_1 < (l0.length : Int)
        · rw [if_pos c4] at H
          have c4b0 : decide (x5_1 < (l0.length : Int)) = true := decide_eq_true c4
          clear c4
          by_cases c5 : 0 ≤ x5_1
          · rw [if_pos c5] at H
            have c5b0 : decide (0 ≤ x5_1) = true := decide_eq_true c5
            clear c5
            by_cases c6 : x5_1 < (l1.length : Int)
            · rw [if_pos c6] at H
              have c6b0 : decide (x5_1 < (l1.length : Int)) = true := decide_eq_true c6
              clear c6
              by_cases c7 : (!(((rd_T101 l0 x5_1).f0) == ((rd_T101 l1 x5_1).f0)) || (!((((rd_T101 l0 x5_1).f1).toList) == (((rd_T101 l1 x5_1).f1).toList)))) = true
              · rw [if_pos c7] at H
                have c7b0 : (!(((rd_T101 l0 x5_1).f0) == ((rd_T101 l1 x5_1).f0)) || (!((((rd_T101 l0 x5_1).f1).toList) == (((rd_T101 l1 x5_1).f1).toList)))) = true := c7
                clear c7
                obtain rfl := Option.some.inj H
                have p242 : 0 ≤ (x5_1 : Int) := of_decide_eq_true (by first | (with_reducible assumption) | assumption)
                have q242 : x5_1 < (l0.length : Int) := of_decide_eq_true (by first | (with_reducible assumption) | assumption)
                obtain ⟨ad242, e242, hx242_0, hx242_1⟩ := at_T101 HR0.out x5_1 p242 q242
                cases e242
                replace p242 := eq_true p242
                replace q242 := eq_true q242
                have p243 : 0 ≤ (x5_1 : Int) := of_decide_eq_true (by first | (with_reducible assumption) | assumption)
                have q243 : x5_1 < (l1.length : Int) := of_decide_eq_true (by first | (with_reducible assumption) | assumption)
                obtain ⟨ad243, e243, hx243_0, hx243_1⟩ := at_T101 HR1.out x5_1 p243 q243
                cases e243
                replace p243 := eq_true p243
                replace q243 := eq_true q243
                go_wp2
                repeat (go_quiet (fail); try go_wp2)
                go_ret
                exact ⟨by first | rfl | (simp; done) | (simp [*]; done), by repeat (first | exact Drawn0.refl _ | apply Drawn0.step)⟩
              · rw [if_neg c7] at H
                have c7b0 : (!(((rd_T101 l0 x5_1).f0) == ((rd_T101 l1 x5_1).f0)) || (!((((rd_T101 l0 x5_1).f1).toList) == (((rd_T101 l1 x5_1).f1).toList)))) = false := by simpa using c7
                clear c7
                have H' := Aside0.mk H
                clear H
                have p242 : 0 ≤ (x5_1 : Int) := of_decide_eq_true (by first | (with_reducible assumption) | assumption)
                have q242 : x5_1 < (l0.length : Int) := of_decide_eq_true (by first | (with_reducible assumption) | assumption)
                obtain ⟨ad242, e242, hx242_0, hx242_1⟩ := at_T101 HR0.out x5_1 p242 q242
                cases e242
                replace p242 := eq_true p242
                replace q242 := eq_true q242
                have p243 : 0 ≤ (x5_1 : Int) := of_decide_eq_true (by first | (with_reducible assumption) | assumption)
                have q243 : x5_1 < (l1.length : Int) := of_decide_eq_true (by first | (with_reducible assumption) | assumption)
                obtain ⟨ad243, e243, hx243_0, hx243_1⟩ := at_T101 HR1.out x5_1 p243 q243
                cases e243
                replace p243 := eq_true p243
                replace q243 := eq_true q243
                go_wp2
                repeat (go_quiet (fail); try go_wp2)
                go_roundg k1
                case measure => have := HK1.out; omega
                case rel => exact ⟨(wrap64 (x5_1 + 1)), (by first | rfl | (simp; done) | (simp [*]; done)), H', ⟨by have := HK1.out; omega⟩, by repeat (first | exact Drawn0.refl _ | apply Drawn0.step)⟩
            · rw [if_neg c6] at H
              exact absurd H (by simp)
          · rw [if_neg c5] at H
            exact absurd H (by simp)
        · rw [if_neg c4] at H
          have c4b0 : decide (x5_1 < (l0.length : Int)) = false := decide_eq_false c4
          clear c4
          obtain rfl := Option.some.inj H
          go_wp2
          repeat (go_quiet (fail); try go_wp2)
          go_ret
          exact ⟨by first | rfl | (simp; done) | (simp [*]; done), by repeat (first | exact Drawn0.refl _ | apply Drawn0.step)⟩
  · rw [if_neg c3] at H
    have c3b0 : ((l0.length : Int) == (l1.length : Int)) = false := beq_eq_false_iff_ne.mpr c3
    have c3b1 : ((l0.length : Int) != (l1.length : Int)) = true := bne_iff_ne.mpr c3
    have c3b2 : (l0.length == l1.length) = false := by first | simpa using c3 | (simp at c3 ⊢; omega)
    obtain rfl := Option.some.inj H
    go_enter Tryd.func70, Tryd.ntmps70
    go_wp2
    repeat (go_quiet (fail); try go_wp2)
    go_ret
    exact ⟨by first | rfl | (simp; done) | (simp [*]; done), by repeat (first | exact Drawn0.refl _ | apply Drawn0.step)⟩
end Go.Proofs.YtiohiiekaofkbaaDoor.PNamesBack
/- Printed for this claim. -/
namespace Go.Proofs.YtiohiiekaofkbaaDoor.PNamesBack
open Go.RowKit Go.Proofs.YtiohiiekaofkbaaDoorW.PrintWords Go.Proofs.YtiohiiekaofkbaaDoorW.PrintLast Go.Proofs.YtiohiiekaofkbaaDoorW.PrintMore
attribute [local go_sem] max2_int min2_int max_two min_two max_three min_three max_four min_four
set_option linter.unusedVariables false
set_option linter.unusedSimpArgs false
mutual
def dobbyref14_Same.j0 : Nat → Bool → Bool → Bool → Bool → ByteArray → List (S101) → List (S103) → Bool → Bool → Bool → ByteArray → List (S101) → List (S103) → Option (Bool)
  | 0, _, _, _, _, _, _, _, _, _, _, _, _, _ => none
  | k + 1, x48, x245000, x245001, x245002, x245003, x245004, x245005, x246000, x246001, x246002, x246003, x246004, x246005 => if x48 = true then (some false) else (dobbyref14_Same.l0 k 0 x245000 x245001 x245002 x245003 x245004 x245005 x246000 x246001 x246002 x246003 x246004 x246005)
def dobbyref14_Same.l0 : Nat → Int → Bool → Bool → Bool → ByteArray → List (S101) → List (S103) → Bool → Bool → Bool → ByteArray → List (S101) → List (S103) → Option (Bool)
  | 0, _, _, _, _, _, _, _, _, _, _, _, _, _ => none
  | k + 1, x5, x245000, x245001, x245002, x245003, x245004, x245005, x246000, x246001, x246002, x246003, x246004, x246005 => if x5 < (x245005.length : Int) then (if 0 ≤ x5 then (if x5 < (x246005.length : Int) then (if ((rd_T103 x245005 x5).f0) = ((rd_T103 x246005 x5).f0) then ((dobbyref14_alike.f k ((rd_T103 x245005 x5).f1) ((rd_T103 x246005 x5).f1)).bind fun t251 => (if t251 = true then (dobbyref14_Same.l0 k (wrap64 (x5 + 1)) x245000 x245001 x245002 x245003 x245004 x245005 x246000 x246001 x246002 x246003 x246004 x246005) else (some false))) else (some false)) else (none)) else (none)) else (some true)
end
def dobbyref14_Same.f (k : Nat) (a0_0 : Bool) (a0_1 : Bool) (a0_2 : Bool) (a0_3 : ByteArray) (l0_4 : List (S101)) (l0_5 : List (S103)) (a1_0 : Bool) (a1_1 : Bool) (a1_2 : Bool) (a1_3 : ByteArray) (l1_4 : List (S101)) (l1_5 : List (S103)) : Option (Bool) := if (a0_0 != a1_0) = true then (dobbyref14_Same.j0 k true a0_0 a0_1 a0_2 a0_3 l0_4 l0_5 a1_0 a1_1 a1_2 a1_3 l1_4 l1_5) else (if (a0_1 != a1_1) = true then (dobbyref14_Same.j0 k true a0_0 a0_1 a0_2 a0_3 l0_4 l0_5 a1_0 a1_1 a1_2 a1_3 l1_4 l1_5) else (if (a0_2 != a1_2) = true then (dobbyref14_Same.j0 k true a0_0 a0_1 a0_2 a0_3 l0_4 l0_5 a1_0 a1_1 a1_2 a1_3 l1_4 l1_5) else (if a0_3.toList = a1_3.toList then ((dobbyref14_alike.f k l0_4 l1_4).bind fun t246 => (if t246 = true then (dobbyref14_Same.j0 k ((l0_5.length : Int) != (l1_5.length : Int)) a0_0 a0_1 a0_2 a0_3 l0_4 l0_5 a1_0 a1_1 a1_2 a1_3 l1_4 l1_5) else (dobbyref14_Same.j0 k true a0_0 a0_1 a0_2 a0_3 l0_4 l0_5 a1_0 a1_1 a1_2 a1_3 l1_4 l1_5))) else (dobbyref14_Same.j0 k true a0_0 a0_1 a0_2 a0_3 l0_4 l0_5 a1_0 a1_1 a1_2 a1_3 l1_4 l1_5))))
theorem dobbyref14_Same.mono_l : ∀ k, (∀ y0 y1 y2 y3 y4 y5 y6 y7 y8 y9 y10 y11 y12, LeO (dobbyref14_Same.j0 k y0 y1 y2 y3 y4 y5 y6 y7 y8 y9 y10 y11 y12) (dobbyref14_Same.j0 (k + 1) y0 y1 y2 y3 y4 y5 y6 y7 y8 y9 y10 y11 y12)) ∧ (∀ y0 y1 y2 y3 y4 y5 y6 y7 y8 y9 y10 y11 y12, LeO (dobbyref14_Same.l0 k y0 y1 y2 y3 y4 y5 y6 y7 y8 y9 y10 y11 y12) (dobbyref14_Same.l0 (k + 1) y0 y1 y2 y3 y4 y5 y6 y7 y8 y9 y10 y11 y12))
  | 0 => ⟨fun _ _ _ _ _ _ _ _ _ _ _ _ _ r h => by simp [dobbyref14_Same.j0] at h, fun _ _ _ _ _ _ _ _ _ _ _ _ _ r h => by simp [dobbyref14_Same.l0] at h⟩
  | k + 1 => by
    obtain ⟨ih0, ih1⟩ := dobbyref14_Same.mono_l k
    refine ⟨?_, ?_⟩
    · intro y0 y1 y2 y3 y4 y5 y6 y7 y8 y9 y10 y11 y12
      unfold dobbyref14_Same.j0
      repeat' first
      | (with_reducible exact ih0 _ _ _ _ _ _ _ _ _ _ _ _ _)
      | (with_reducible exact ih1 _ _ _ _ _ _ _ _ _ _ _ _ _)
      | (with_reducible exact dobbyref14_alike.mono _ _ _)
      | (with_reducible exact LeO.refl _)
      | (with_reducible exact LeO.none _)
      | (with_reducible refine LeO.ite ?_ ?_)
      | (with_reducible refine LeO.bind ?_ (fun _ => ?_))
      | exact ih0 _ _ _ _ _ _ _ _ _ _ _ _ _
      | exact ih1 _ _ _ _ _ _ _ _ _ _ _ _ _
      | exact dobbyref14_alike.mono _ _ _
      | exact LeO.none _
      | refine LeO.ite ?_ ?_
      | refine LeO.bind ?_ (fun _ => ?_)
    · intro y0 y1 y2 y3 y4 y5 y6 y7 y8 y9 y10 y11 y12
      unfold dobbyref14_Same.l0
      repeat' first
      | (with_reducible exact ih0 _ _ _ _ _ _ _ _ _ _ _ _ _)
      | (with_reducible exact ih1 _ _ _ _ _ _ _ _ _ _ _ _ _)
      | (with_reducible exact dobbyref14_alike.mono _ _ _)
      | (with_reducible exact LeO.refl _)
      | (with_reducible exact LeO.none _)
      | (with_reducible refine LeO.ite ?_ ?_)
      | (with_reducible refine LeO.bind ?_ (fun _ => ?_))
      | exact ih0 _ _ _ _ _ _ _ _ _ _ _ _ _
      | exact ih1 _ _ _ _ _ _ _ _ _ _ _ _ _
      | exact dobbyref14_alike.mono _ _ _
      | exact LeO.none _
      | refine LeO.ite ?_ ?_
      | refine LeO.bind ?_ (fun _ => ?_)
theorem dobbyref14_Same.mono : ∀ a0 a1 a2 a3 a4 a5 a6 a7 a8 a9 a10 a11 k, LeO (dobbyref14_Same.f k a0 a1 a2 a3 a4 a5 a6 a7 a8 a9 a10 a11) (dobbyref14_Same.f (k + 1) a0 a1 a2 a3 a4 a5 a6 a7 a8 a9 a10 a11) := by
  intro a0 a1 a2 a3 a4 a5 a6 a7 a8 a9 a10 a11 k
  obtain ⟨ih0, ih1⟩ := dobbyref14_Same.mono_l k
  unfold dobbyref14_Same.f
  repeat' first
      | (with_reducible exact ih0 _ _ _ _ _ _ _ _ _ _ _ _ _)
      | (with_reducible exact ih1 _ _ _ _ _ _ _ _ _ _ _ _ _)
      | (with_reducible exact dobbyref14_alike.mono _ _ _)
      | (with_reducible exact LeO.refl _)
      | (with_reducible exact LeO.none _)
      | (with_reducible refine LeO.ite ?_ ?_)
      | (with_reducible refine LeO.bind ?_ (fun _ => ?_))
      | exact ih0 _ _ _ _ _ _ _ _ _ _ _ _ _
      | exact ih1 _ _ _ _ _ _ _ _ _ _ _ _ _
      | exact dobbyref14_alike.mono _ _ _
      | exact LeO.none _
      | refine LeO.ite ?_ ?_
      | refine LeO.bind ?_ (fun _ => ?_)
set_option maxHeartbeats 8000000 in
set_option maxRecDepth 100000 in
theorem dobbyref14_Same.calls (k : Nat) (a0_0 : Bool) (a0_1 : Bool) (a0_2 : Bool) (a0_3 : ByteArray) (A0_4 : Option Addr) (c0_4 : Nat) (l0_4 : List (S101)) (A0_5 : Option Addr) (c0_5 : Nat) (l0_5 : List (S103)) (a1_0 : Bool) (a1_1 : Bool) (a1_2 : Bool) (a1_3 : ByteArray) (A1_4 : Option Addr) (c1_4 : Nat) (l1_4 : List (S101)) (A1_5 : Option Addr) (c1_5 : Nat) (l1_5 : List (S103)) (r : Bool) (w : World) (hr0_4 : Kd.C k101 w A0_4 l0_4.length l0_4) (hc0_4 : l0_4.length ≤ c0_4) (hr0_5 : Kd.C k103 w A0_5 l0_5.length l0_5) (hc0_5 : l0_5.length ≤ c0_5) (hr1_4 : Kd.C k101 w A1_4 l1_4.length l1_4) (hc1_4 : l1_4.length ≤ c1_4) (hr1_5 : Kd.C k103 w A1_5 l1_5.length l1_5) (hc1_5 : l1_5.length ≤ c1_5) (h : dobbyref14_Same.f k a0_0 a0_1 a0_2 a0_3 l0_4 l0_5 a1_0 a1_1 a1_2 a1_3 l1_4 l1_5 = some r) :
    Calls Tryd.prog 13 #[.agg #[.bool a0_0, .bool a0_1, .bool a0_2, .string a0_3, .slice A0_4 l0_4.length c0_4, .slice A0_5 l0_5.length c0_5], .agg #[.bool a1_0, .bool a1_1, .bool a1_2, .string a1_3, .slice A1_4 l1_4.length c1_4, .slice A1_5 l1_5.length c1_5]] w fun e w' => e = .returned (.bool r) ∧ Below w.heap.size w w' := by
  have hu25 := Tryd.underlying25
  have HR0_4 := Aside0.mk hr0_4
  have HC0_4 := Aside0.mk hc0_4
  clear hr0_4 hc0_4
  have HR0_5 := Aside0.mk hr0_5
  have HC0_5 := Aside0.mk hc0_5
  clear hr0_5 hc0_5
  have HR1_4 := Aside0.mk hr1_4
  have HC1_4 := Aside0.mk hc1_4
  clear hr1_4 hc1_4
  have HR1_5 := Aside0.mk hr1_5
  have HC1_5 := Aside0.mk hc1_5
  clear hr1_5 hc1_5
  have HB := Aside0.mk (Below.refl w.heap.size w)
  have H : (if (a0_0 != a1_0) = true then (dobbyref14_Same.j0 k true a0_0 a0_1 a0_2 a0_3 l0_4 l0_5 a1_0 a1_1 a1_2 a1_3 l1_4 l1_5) else (if (a0_1 != a1_1) = true then (dobbyref14_Same.j0 k true a0_0 a0_1 a0_2 a0_3 l0_4 l0_5 a1_0 a1_1 a1_2 a1_3 l1_4 l1_5) else (if (a0_2 != a1_2) = true then (dobbyref14_Same.j0 k true a0_0 a0_1 a0_2 a0_3 l0_4 l0_5 a1_0 a1_1 a1_2 a1_3 l1_4 l1_5) else (if a0_3.toList = a1_3.toList then ((dobbyref14_alike.f k l0_4 l1_4).bind fun t246 => (if t246 = true then (dobbyref14_Same.j0 k ((l0_5.length : Int) != (l1_5.length : Int)) a0_0 a0_1 a0_2 a0_3 l0_4 l0_5 a1_0 a1_1 a1_2 a1_3 l1_4 l1_5) else (dobbyref14_Same.j0 k true a0_0 a0_1 a0_2 a0_3 l0_4 l0_5 a1_0 a1_1 a1_2 a1_3 l1_4 l1_5))) else (dobbyref14_Same.j0 k true a0_0 a0_1 a0_2 a0_3 l0_4 l0_5 a1_0 a1_1 a1_2 a1_3 l1_4 l1_5))))) = some r := h
  clear h
  have HC3 := Aside0.mk H
  clear H
  go_enter Tryd.func13, Tryd.ntmps13
  go_upto_region 1 with (first | ((with_reducible refine gate_dst (N := 2) rfl ?_); (try (refine gate_guard (by rfl) ?_; dsimp only)); refine box_event ?hg (N := 2) ?hd (cs := #[.bool a0_0, .bool a0_1, .bool a0_2, .string a0_3, .slice A0_4 l0_4.length c0_4, .slice A0_5 l0_5.length c0_5]) (t := 25) ?hr ?_; (case hd => rfl); (case hg => rfl); (case hr => first | (go_simp; done) | (go_simp; rfl)); intro gb244 hg w4 hbox hb; have n0_ := Aside0.mk (below_step (by repeat (first | (with_reducible first | exact HB.out | apply below_alloc | apply pw_below_drewN | apply below_drew1) | exact HB.out)) hb); have n1_ := Aside0.mk (hbox); have n2_ := Aside0.mk ((by rw [hg]; exact (below_size (by repeat (first | (with_reducible first | exact HB.out | apply below_alloc | apply pw_below_drewN | apply below_drew1) | exact HB.out))) : w.heap.size ≤ gb244)); have n3_ := Aside0.mk ((by rw [hg]; exact (below_size (by repeat (first | (with_reducible first | exact HB.out | apply below_alloc | apply pw_below_drewN | apply below_drew1) | exact HB.out))) : w.heap.size ≤ gb244)); clear HB; have HB := n0_; have BK244 := n1_; have GW244 := n2_; have GE244 := n3_; clear n0_ n1_ n2_ n3_; clear hb hbox hg) | ((with_reducible refine gate_dst (N := 3) rfl ?_); (try (refine gate_guard (by rfl) ?_; dsimp only)); refine box_event ?hg (N := 3) ?hd (cs := #[.bool a1_0, .bool a1_1, .bool a1_2, .string a1_3, .slice A1_4 l1_4.length c1_4, .slice A1_5 l1_5.length c1_5]) (t := 25) ?hr ?_; (case hd => rfl); (case hg => rfl); (case hr => first | (go_simp; done) | (go_simp; rfl)); intro gb245 hg w5 hbox hb; have n0_ := Aside0.mk (blk_below (g := gb244) (o := .cells #[.bool a0_0, .bool a0_1, .bool a0_2, .string a0_3, .slice A0_4 l0_4.length c0_4, .slice A0_5 l0_5.length c0_5] 25 (0, 0)) (by (with_reducible repeat (first | refine blk_drewN ?_ _ | refine blk_drew ?_ | refine blk_alloc ?_ _)); exact BK244.out) hb); have n1_ := Aside0.mk (below_step (by repeat (first | (with_reducible first | exact HB.out | apply below_alloc | apply pw_below_drewN | apply below_drew1 | refine below_set ?_ GE244.out) | exact HB.out)) hb); have n2_ := Aside0.mk (hbox); have n3_ := Aside0.mk ((by rw [hg]; exact (below_size (by repeat (first | (with_reducible first | exact HB.out | apply below_alloc | apply pw_below_drewN | apply below_drew1 | refine below_set ?_ GE244.out) | exact HB.out))) : w.heap.size ≤ gb245)); have n4_ := Aside0.mk ((by rw [hg]; exact (below_size (by repeat (first | (with_reducible first | exact HB.out | apply below_alloc | apply pw_below_drewN | apply below_drew1 | refine below_set ?_ GE244.out) | exact HB.out))) : w.heap.size ≤ gb245)); have n5_ := Aside0.mk ((by rw [hg]; exact Nat.ne_of_lt (blk_lt (g := gb244) (o := .cells #[.bool a0_0, .bool a0_1, .bool a0_2, .string a0_3, .slice A0_4 l0_4.length c0_4, .slice A0_5 l0_5.length c0_5] 25 (0, 0)) (by (with_reducible repeat (first | refine blk_drewN ?_ _ | refine blk_drew ?_ | refine blk_alloc ?_ _)); exact BK244.out)) : gb244 ≠ gb245)); have n6_ := Aside0.mk ((by rw [hg]; exact Nat.ne_of_gt (blk_lt (g := gb244) (o := .cells #[.bool a0_0, .bool a0_1, .bool a0_2, .string a0_3, .slice A0_4 l0_4.length c0_4, .slice A0_5 l0_5.length c0_5] 25 (0, 0)) (by (with_reducible repeat (first | refine blk_drewN ?_ _ | refine blk_drew ?_ | refine blk_alloc ?_ _)); exact BK244.out)) : gb245 ≠ gb244)); clear BK244; clear HB; have BK244 := n0_; have HB := n1_; have BK245 := n2_; have GW245 := n3_; have GE245 := n4_; have NB244_245 := n5_; have NB245_244 := n6_; clear n0_ n1_ n2_ n3_ n4_ n5_ n6_; clear hb hbox hg))
  repeat (go_quiet (first | ((with_reducible refine gate_dst (N := 2) rfl ?_); (try (refine gate_guard (by rfl) ?_; dsimp only)); refine box_event ?hg (N := 2) ?hd (cs := #[.bool a0_0, .bool a0_1, .bool a0_2, .string a0_3, .slice A0_4 l0_4.length c0_4, .slice A0_5 l0_5.length c0_5]) (t := 25) ?hr ?_; (case hd => rfl); (case hg => rfl); (case hr => first | (go_simp; done) | (go_simp; rfl)); intro gb244 hg w4 hbox hb; have n0_ := Aside0.mk (below_step (by repeat (first | (with_reducible first | exact HB.out | apply below_alloc | apply pw_below_drewN | apply below_drew1) | exact HB.out)) hb); have n1_ := Aside0.mk (hbox); have n2_ := Aside0.mk ((by rw [hg]; exact (below_size (by repeat (first | (with_reducible first | exact HB.out | apply below_alloc | apply pw_below_drewN | apply below_drew1) | exact HB.out))) : w.heap.size ≤ gb244)); have n3_ := Aside0.mk ((by rw [hg]; exact (below_size (by repeat (first | (with_reducible first | exact HB.out | apply below_alloc | apply pw_below_drewN | apply below_drew1) | exact HB.out))) : w.heap.size ≤ gb244)); clear HB; have HB := n0_; have BK244 := n1_; have GW244 := n2_; have GE244 := n3_; clear n0_ n1_ n2_ n3_; clear hb hbox hg) | ((with_reducible refine gate_dst (N := 3) rfl ?_); (try (refine gate_guard (by rfl) ?_; dsimp only)); refine box_event ?hg (N := 3) ?hd (cs := #[.bool a1_0, .bool a1_1, .bool a1_2, .string a1_3, .slice A1_4 l1_4.length c1_4, .slice A1_5 l1_5.length c1_5]) (t := 25) ?hr ?_; (case hd => rfl); (case hg => rfl); (case hr => first | (go_simp; done) | (go_simp; rfl)); intro gb245 hg w5 hbox hb; have n0_ := Aside0.mk (blk_below (g := gb244) (o := .cells #[.bool a0_0, .bool a0_1, .bool a0_2, .string a0_3, .slice A0_4 l0_4.length c0_4, .slice A0_5 l0_5.length c0_5] 25 (0, 0)) (by (with_reducible repeat (first | refine blk_drewN ?_ _ | refine blk_drew ?_ | refine blk_alloc ?_ _)); exact BK244.out) hb); have n1_ := Aside0.mk (below_step (by repeat (first | (with_reducible first | exact HB.out | apply below_alloc | apply pw_below_drewN | apply below_drew1 | refine below_set ?_ GE244.out) | exact HB.out)) hb); have n2_ := Aside0.mk (hbox); have n3_ := Aside0.mk ((by rw [hg]; exact (below_size (by repeat (first | (with_reducible first | exact HB.out | apply below_alloc | apply pw_below_drewN | apply below_drew1 | refine below_set ?_ GE244.out) | exact HB.out))) : w.heap.size ≤ gb245)); have n4_ := Aside0.mk ((by rw [hg]; exact (below_size (by repeat (first | (with_reducible first | exact HB.out | apply below_alloc | apply pw_below_drewN | apply below_drew1 | refine below_set ?_ GE244.out) | exact HB.out))) : w.heap.size ≤ gb245)); have n5_ := Aside0.mk ((by rw [hg]; exact Nat.ne_of_lt (blk_lt (g := gb244) (o := .cells #[.bool a0_0, .bool a0_1, .bool a0_2, .string a0_3, .slice A0_4 l0_4.length c0_4, .slice A0_5 l0_5.length c0_5] 25 (0, 0)) (by (with_reducible repeat (first | refine blk_drewN ?_ _ | refine blk_drew ?_ | refine blk_alloc ?_ _)); exact BK244.out)) : gb244 ≠ gb245)); have n6_ := Aside0.mk ((by rw [hg]; exact Nat.ne_of_gt (blk_lt (g := gb244) (o := .cells #[.bool a0_0, .bool a0_1, .bool a0_2, .string a0_3, .slice A0_4 l0_4.length c0_4, .slice A0_5 l0_5.length c0_5] 25 (0, 0)) (by (with_reducible repeat (first | refine blk_drewN ?_ _ | refine blk_drew ?_ | refine blk_alloc ?_ _)); exact BK244.out)) : gb245 ≠ gb244)); clear BK244; clear HB; have BK244 := n0_; have HB := n1_; have BK245 := n2_; have GW245 := n3_; have GE245 := n4_; have NB244_245 := n5_; have NB245_244 := n6_; clear n0_ n1_ n2_ n3_ n4_ n5_ n6_; clear hb hbox hg)); go_upto_region 1 with (first | ((with_reducible refine gate_dst (N := 2) rfl ?_); (try (refine gate_guard (by rfl) ?_; dsimp only)); refine box_event ?hg (N := 2) ?hd (cs := #[.bool a0_0, .bool a0_1, .bool a0_2, .string a0_3, .slice A0_4 l0_4.length c0_4, .slice A0_5 l0_5.length c0_5]) (t := 25) ?hr ?_; (case hd => rfl); (case hg => rfl); (case hr => first | (go_simp; done) | (go_simp; rfl)); intro gb244 hg w4 hbox hb; have n0_ := Aside0.mk (below_step (by repeat (first | (with_reducible first | exact HB.out | apply below_alloc | apply pw_below_drewN | apply below_drew1) | exact HB.out)) hb); have n1_ := Aside0.mk (hbox); have n2_ := Aside0.mk ((by rw [hg]; exact (below_size (by repeat (first | (with_reducible first | exact HB.out | apply below_alloc | apply pw_below_drewN | apply below_drew1) | exact HB.out))) : w.heap.size ≤ gb244)); have n3_ := Aside0.mk ((by rw [hg]; exact (below_size (by repeat (first | (with_reducible first | exact HB.out | apply below_alloc | apply pw_below_drewN | apply below_drew1) | exact HB.out))) : w.heap.size ≤ gb244)); clear HB; have HB := n0_; have BK244 := n1_; have GW244 := n2_; have GE244 := n3_; clear n0_ n1_ n2_ n3_; clear hb hbox hg) | ((with_reducible refine gate_dst (N := 3) rfl ?_); (try (refine gate_guard (by rfl) ?_; dsimp only)); refine box_event ?hg (N := 3) ?hd (cs := #[.bool a1_0, .bool a1_1, .bool a1_2, .string a1_3, .slice A1_4 l1_4.length c1_4, .slice A1_5 l1_5.length c1_5]) (t := 25) ?hr ?_; (case hd => rfl); (case hg => rfl); (case hr => first | (go_simp; done) | (go_simp; rfl)); intro gb245 hg w5 hbox hb; have n0_ := Aside0.mk (blk_below (g := gb244) (o := .cells #[.bool a0_0, .bool a0_1, .bool a0_2, .string a0_3, .slice A0_4 l0_4.length c0_4, .slice A0_5 l0_5.length c0_5] 25 (0, 0)) (by (with_reducible repeat (first | refine blk_drewN ?_ _ | refine blk_drew ?_ | refine blk_alloc ?_ _)); exact BK244.out) hb); have n1_ := Aside0.mk (below_step (by repeat (first | (with_reducible first | exact HB.out | apply below_alloc | apply pw_below_drewN | apply below_drew1 | refine below_set ?_ GE244.out) | exact HB.out)) hb); have n2_ := Aside0.mk (hbox); have n3_ := Aside0.mk ((by rw [hg]; exact (below_size (by repeat (first | (with_reducible first | exact HB.out | apply below_alloc | apply pw_below_drewN | apply below_drew1 | refine below_set ?_ GE244.out) | exact HB.out))) : w.heap.size ≤ gb245)); have n4_ := Aside0.mk ((by rw [hg]; exact (below_size (by repeat (first | (with_reducible first | exact HB.out | apply below_alloc | apply pw_below_drewN | apply below_drew1 | refine below_set ?_ GE244.out) | exact HB.out))) : w.heap.size ≤ gb245)); have n5_ := Aside0.mk ((by rw [hg]; exact Nat.ne_of_lt (blk_lt (g := gb244) (o := .cells #[.bool a0_0, .bool a0_1, .bool a0_2, .string a0_3, .slice A0_4 l0_4.length c0_4, .slice A0_5 l0_5.length c0_5] 25 (0, 0)) (by (with_reducible repeat (first | refine blk_drewN ?_ _ | refine blk_drew ?_ | refine blk_alloc ?_ _)); exact BK244.out)) : gb244 ≠ gb245)); have n6_ := Aside0.mk ((by rw [hg]; exact Nat.ne_of_gt (blk_lt (g := gb244) (o := .cells #[.bool a0_0, .bool a0_1, .bool a0_2, .string a0_3, .slice A0_4 l0_4.length c0_4, .slice A0_5 l0_5.length c0_5] 25 (0, 0)) (by (with_reducible repeat (first | refine blk_drewN ?_ _ | refine blk_drew ?_ | refine blk_alloc ?_ _)); exact BK244.out)) : gb245 ≠ gb244)); clear BK244; clear HB; have BK244 := n0_; have HB := n1_; have BK245 := n2_; have GW245 := n3_; have GE245 := n4_; have NB244_245 := n5_; have NB245_244 := n6_; clear n0_ n1_ n2_ n3_ n4_ n5_ n6_; clear hb hbox hg)))
  (try simp only [Act.put, List.setIfInBounds_toArray, List.set_cons_zero, List.set_cons_succ])
  go_cut [48] (fun v48 wc => ∃ (kq : Nat) (x48_2 : Bool), v48 = .bool x48_2 ∧ Aside0 (dobbyref14_Same.j0 kq x48_2 a0_0 a0_1 a0_2 a0_3 l0_4 l0_5 a1_0 a1_1 a1_2 a1_3 l1_4 l1_5 = some r) ∧ Aside0 (kq ≤ k) ∧ Aside0 (wc.heap[gb244]? = some (.cells #[.bool a0_0, .bool a0_1, .bool a0_2, .string a0_3, (.slice A0_4 l0_4.length c0_4), (.slice A0_5 l0_5.length c0_5)] 25 (0, 0))) ∧ Aside0 (wc.heap[gb245]? = some (.cells #[.bool a1_0, .bool a1_1, .bool a1_2, .string a1_3, (.slice A1_4 l1_4.length c1_4), (.slice A1_5 l1_5.length c1_5)] 25 (0, 0))) ∧ Aside0 (Below w.heap.size w wc))
  case first =>
    have H := HC3.out
    clear HC3
    by_cases c6 : (a0_0 != a1_0) = true
    · rw [if_pos c6] at H
      have c6b0 : (a0_0 != a1_0) = true := c6
      (try (have c6b1 : decide (a0_0 = a1_0) = false := by simpa using c6))
      (try (have c6b2 : (a0_0 == a1_0) = false := by simpa using c6))
      (try (have c6b3 : ¬ (a0_0 = a1_0) := by simpa using c6))
      clear c6
      (first | rw [c6b0] | (simp only [i64_w, i32_w]; rw [c6b0]) | skip)
      have H' := Aside0.mk H
      clear H
      have hnb7 := NB244_245.out
      have hnc7 := NB245_244.out
      have hcz8_0 : w5.cell? ⟨gb244, 0, none⟩ = some (.bool a0_0) := (blk_cell BK244.out 0).trans rfl
      have hcz8_1 : w5.cell? ⟨gb244, 1, none⟩ = some (.bool a0_1) := (blk_cell BK244.out 1).trans rfl
      have hcz8_2 : w5.cell? ⟨gb244, 2, none⟩ = some (.bool a0_2) := (blk_cell BK244.out 2).trans rfl
      have hcz8_3 : w5.cell? ⟨gb244, 3, none⟩ = some (.string a0_3) := (blk_cell BK244.out 3).trans rfl
      have hcz8_4 : w5.cell? ⟨gb244, 4, none⟩ = some (.slice A0_4 l0_4.length c0_4) := (blk_cell BK244.out 4).trans rfl
      have hcz8_5 : w5.cell? ⟨gb244, 5, none⟩ = some (.slice A0_5 l0_5.length c0_5) := (blk_cell BK244.out 5).trans rfl
      have hfz8_0 := blk_frozen BK244.out 0
      have hfz8_1 := blk_frozen BK244.out 1
      have hfz8_2 := blk_frozen BK244.out 2
      have hfz8_3 := blk_frozen BK244.out 3
      have hfz8_4 := blk_frozen BK244.out 4
      have hfz8_5 := blk_frozen BK244.out 5
      have hcz9_0 : w5.cell? ⟨gb245, 0, none⟩ = some (.bool a1_0) := (blk_cell BK245.out 0).trans rfl
      have hcz9_1 : w5.cell? ⟨gb245, 1, none⟩ = some (.bool a1_1) := (blk_cell BK245.out 1).trans rfl
      have hcz9_2 : w5.cell? ⟨gb245, 2, none⟩ = some (.bool a1_2) := (blk_cell BK245.out 2).trans rfl
      have hcz9_3 : w5.cell? ⟨gb245, 3, none⟩ = some (.string a1_3) := (blk_cell BK245.out 3).trans rfl
      have hcz9_4 : w5.cell? ⟨gb245, 4, none⟩ = some (.slice A1_4 l1_4.length c1_4) := (blk_cell BK245.out 4).trans rfl
      have hcz9_5 : w5.cell? ⟨gb245, 5, none⟩ = some (.slice A1_5 l1_5.length c1_5) := (blk_cell BK245.out 5).trans rfl
      have hfz9_0 := blk_frozen BK245.out 0
      have hfz9_1 := blk_frozen BK245.out 1
      have hfz9_2 := blk_frozen BK245.out 2
      have hfz9_3 := blk_frozen BK245.out 3
      have hfz9_4 := blk_frozen BK245.out 4
      have hfz9_5 := blk_frozen BK245.out 5
      go_wp2
      repeat (go_quiet (fail); try go_wp2)
      go_meet
      case rel => exact ⟨_, (true), (by first | rfl | (simp; done) | (simp [*]; done)), H', ⟨by first | omega | exact Nat.le_refl _⟩, ⟨by (with_reducible repeat (first | refine blk_drewN ?_ _ | refine blk_drew ?_ | refine blk_alloc ?_ _)); exact BK244.out⟩, ⟨by (with_reducible repeat (first | refine blk_drewN ?_ _ | refine blk_drew ?_ | refine blk_alloc ?_ _)); exact BK245.out⟩, ⟨by repeat (first | (with_reducible first | exact HB.out | apply below_alloc | apply pw_below_drewN | apply below_drew1 | refine below_set ?_ GE244.out | refine below_set ?_ GE245.out) | exact HB.out)⟩⟩
    · rw [if_neg c6] at H
      have c6b0 : (a0_0 != a1_0) = false := by simpa using c6
      (try (have c6b1 : decide (a0_0 = a1_0) = true := by simpa using c6))
      (try (have c6b2 : (a0_0 == a1_0) = true := by simpa using c6))
      clear c6
      (first | rw [c6b0] | (simp only [i64_w, i32_w]; rw [c6b0]) | skip)
      by_cases c10 : (a0_1 != a1_1) = true
      · rw [if_pos c10] at H
        have c10b0 : (a0_1 != a1_1) = true := c10
        (try (have c10b1 : decide (a0_1 = a1_1) = false := by simpa using c10))
        (try (have c10b2 : (a0_1 == a1_1) = false := by simpa using c10))
        (try (have c10b3 : ¬ (a0_1 = a1_1) := by simpa using c10))
        clear c10
        have H' := Aside0.mk H
        clear H
        have hnb11 := NB244_245.out
        have hnc11 := NB245_244.out
        have hcz12_0 : w5.cell? ⟨gb244, 0, none⟩ = some (.bool a0_0) := (blk_cell BK244.out 0).trans rfl
        have hcz12_1 : w5.cell? ⟨gb244, 1, none⟩ = some (.bool a0_1) := (blk_cell BK244.out 1).trans rfl
        have hcz12_2 : w5.cell? ⟨gb244, 2, none⟩ = some (.bool a0_2) := (blk_cell BK244.out 2).trans rfl
        have hcz12_3 : w5.cell? ⟨gb244, 3, none⟩ = some (.string a0_3) := (blk_cell BK244.out 3).trans rfl
        have hcz12_4 : w5.cell? ⟨gb244, 4, none⟩ = some (.slice A0_4 l0_4.length c0_4) := (blk_cell BK244.out 4).trans rfl
        have hcz12_5 : w5.cell? ⟨gb244, 5, none⟩ = some (.slice A0_5 l0_5.length c0_5) := (blk_cell BK244.out 5).trans rfl
        have hfz12_0 := blk_frozen BK244.out 0
        have hfz12_1 := blk_frozen BK244.out 1
        have hfz12_2 := blk_frozen BK244.out 2
        have hfz12_3 := blk_frozen BK244.out 3
        have hfz12_4 := blk_frozen BK244.out 4
        have hfz12_5 := blk_frozen BK244.out 5
        have hcz13_0 : w5.cell? ⟨gb245, 0, none⟩ = some (.bool a1_0) := (blk_cell BK245.out 0).trans rfl
        have hcz13_1 : w5.cell? ⟨gb245, 1, none⟩ = some (.bool a1_1) := (blk_cell BK245.out 1).trans rfl
        have hcz13_2 : w5.cell? ⟨gb245, 2, none⟩ = some (.bool a1_2) := (blk_cell BK245.out 2).trans rfl
        have hcz13_3 : w5.cell? ⟨gb245, 3, none⟩ = some (.string a1_3) := (blk_cell BK245.out 3).trans rfl
        have hcz13_4 : w5.cell? ⟨gb245, 4, none⟩ = some (.slice A1_4 l1_4.length c1_4) := (blk_cell BK245.out 4).trans rfl
        have hcz13_5 : w5.cell? ⟨gb245, 5, none⟩ = some (.slice A1_5 l1_5.length c1_5) := (blk_cell BK245.out 5).trans rfl
        have hfz13_0 := blk_frozen BK245.out 0
        have hfz13_1 := blk_frozen BK245.out 1
        have hfz13_2 := blk_frozen BK245.out 2
        have hfz13_3 := blk_frozen BK245.out 3
        have hfz13_4 := blk_frozen BK245.out 4
        have hfz13_5 := blk_frozen BK245.out 5
        go_wp2
        repeat (go_quiet (fail); try go_wp2)
        go_meet
        case rel => exact ⟨_, (true), (by first | rfl | (simp; done) | (simp [*]; done)), H', ⟨by first | omega | exact Nat.le_refl _⟩, ⟨by (with_reducible repeat (first | refine blk_drewN ?_ _ | refine blk_drew ?_ | refine blk_alloc ?_ _)); exact BK244.out⟩, ⟨by (with_reducible repeat (first | refine blk_drewN ?_ _ | refine blk_drew ?_ | refine blk_alloc ?_ _)); exact BK245.out⟩, ⟨by repeat (first | (with_reducible first | exact HB.out | apply below_alloc | apply pw_below_drewN | apply below_drew1 | refine below_set ?_ GE244.out | refine below_set ?_ GE245.out) | exact HB.out)⟩⟩
      · rw [if_neg c10] at H
        have c10b0 : (a0_1 != a1_1) = false := by simpa using c10
        (try (have c10b1 : decide (a0_1 = a1_1) = true := by simpa using c10))
        (try (have c10b2 : (a0_1 == a1_1) = true := by simpa using c10))
        clear c10
        by_cases c14 : (a0_2 != a1_2) = true
        · rw [if_pos c14] at H
          have c14b0 : (a0_2 != a1_2) = true := c14
          (try (have c14b1 : decide (a0_2 = a1_2) = false := by simpa using c14))
          (try (have c14b2 : (a0_2 == a1_2) = false := by simpa using c14))
          (try (have c14b3 : ¬ (a0_2 = a1_2) := by simpa using c14))
          clear c14
          have H' := Aside0.mk H
          clear H
          have hnb15 := NB244_245.out
          have hnc15 := NB245_244.out
          have hcz16_0 : w5.cell? ⟨gb244, 0, none⟩ = some (.bool a0_0) := (blk_cell BK244.out 0).trans rfl
          have hcz16_1 : w5.cell? ⟨gb244, 1, none⟩ = some (.bool a0_1) := (blk_cell BK244.out 1).trans rfl
          have hcz16_2 : w5.cell? ⟨gb244, 2, none⟩ = some (.bool a0_2) := (blk_cell BK244.out 2).trans rfl
          have hcz16_3 : w5.cell? ⟨gb244, 3, none⟩ = some (.string a0_3) := (blk_cell BK244.out 3).trans rfl
          have hcz16_4 : w5.cell? ⟨gb244, 4, none⟩ = some (.slice A0_4 l0_4.length c0_4) := (blk_cell BK244.out 4).trans rfl
          have hcz16_5 : w5.cell? ⟨gb244, 5, none⟩ = some (.slice A0_5 l0_5.length c0_5) := (blk_cell BK244.out 5).trans rfl
          have hfz16_0 := blk_frozen BK244.out 0
          have hfz16_1 := blk_frozen BK244.out 1
          have hfz16_2 := blk_frozen BK244.out 2
          have hfz16_3 := blk_frozen BK244.out 3
          have hfz16_4 := blk_frozen BK244.out 4
          have hfz16_5 := blk_frozen BK244.out 5
          have hcz17_0 : w5.cell? ⟨gb245, 0, none⟩ = some (.bool a1_0) := (blk_cell BK245.out 0).trans rfl
          have hcz17_1 : w5.cell? ⟨gb245, 1, none⟩ = some (.bool a1_1) := (blk_cell BK245.out 1).trans rfl
          have hcz17_2 : w5.cell? ⟨gb245, 2, none⟩ = some (.bool a1_2) := (blk_cell BK245.out 2).trans rfl
          have hcz17_3 : w5.cell? ⟨gb245, 3, none⟩ = some (.string a1_3) := (blk_cell BK245.out 3).trans rfl
          have hcz17_4 : w5.cell? ⟨gb245, 4, none⟩ = some (.slice A1_4 l1_4.length c1_4) := (blk_cell BK245.out 4).trans rfl
          have hcz17_5 : w5.cell? ⟨gb245, 5, none⟩ = some (.slice A1_5 l1_5.length c1_5) := (blk_cell BK245.out 5).trans rfl
          have hfz17_0 := blk_frozen BK245.out 0
          have hfz17_1 := blk_frozen BK245.out 1
          have hfz17_2 := blk_frozen BK245.out 2
          have hfz17_3 := blk_frozen BK245.out 3
          have hfz17_4 := blk_frozen BK245.out 4
          have hfz17_5 := blk_frozen BK245.out 5
          go_wp2
          repeat (go_quiet (fail); try go_wp2)
          go_meet
          case rel => exact ⟨_, (true), (by first | rfl | (simp; done) | (simp [*]; done)), H', ⟨by first | omega | exact Nat.le_refl _⟩, ⟨by (with_reducible repeat (first | refine blk_drewN ?_ _ | refine blk_drew ?_ | refine blk_alloc ?_ _)); exact BK244.out⟩, ⟨by (with_reducible repeat (first | refine blk_drewN ?_ _ | refine blk_drew ?_ | refine blk_alloc ?_ _)); exact BK245.out⟩, ⟨by repeat (first | (with_reducible first | exact HB.out | apply below_alloc | apply pw_below_drewN | apply below_drew1 | refine below_set ?_ GE244.out | refine below_set ?_ GE245.out) | exact HB.out)⟩⟩
        · rw [if_neg c14] at H
          have c14b0 : (a0_2 != a1_2) = false := by simpa using c14
          (try (have c14b1 : decide (a0_2 = a1_2) = true := by simpa using c14))
          (try (have c14b2 : (a0_2 == a1_2) = true := by simpa using c14))
          clear c14
          by_cases c18 : a0_3.toList = a1_3.toList
          · rw [if_pos c18] at H
            have c18b0 : (a0_3.toList == a1_3.toList) = true := beq_iff_eq.mpr c18
            have c18b1 : (a0_3.toList != a1_3.toList) = false := bne_eq_false_iff_eq.mpr c18
            clear c18
            replace H := Option.bind_eq_some_iff.mp H
            obtain ⟨t246, A190, H⟩ := H
            replace H : (if t246 = true then (dobbyref14_Same.j0 k ((l0_5.length : Int) != (l1_5.length : Int)) a0_0 a0_1 a0_2 a0_3 l0_4 l0_5 a1_0 a1_1 a1_2 a1_3 l1_4 l1_5) else (dobbyref14_Same.j0 k true a0_0 a0_1 a0_2 a0_3 l0_4 l0_5 a1_0 a1_1 a1_2 a1_3 l1_4 l1_5)) = some r := H
            have A19 := Aside0.mk A190
            clear A190
            by_cases c20 : t246 = true
            · subst c20
              have H1 : (dobbyref14_Same.j0 k ((l0_5.length : Int) != (l1_5.length : Int)) a0_0 a0_1 a0_2 a0_3 l0_4 l0_5 a1_0 a1_1 a1_2 a1_3 l1_4 l1_5) = some r := by rw [if_pos rfl] at H; exact H
              clear H
              have H := H1
              clear H1
              have H' := Aside0.mk H
              clear H
              have hnb21 := NB244_245.out
              have hnc21 := NB245_244.out
              have hcz22_0 : w5.cell? ⟨gb244, 0, none⟩ = some (.bool a0_0) := (blk_cell BK244.out 0).trans rfl
              have hcz22_1 : w5.cell? ⟨gb244, 1, none⟩ = some (.bool a0_1) := (blk_cell BK244.out 1).trans rfl
              have hcz22_2 : w5.cell? ⟨gb244, 2, none⟩ = some (.bool a0_2) := (blk_cell BK244.out 2).trans rfl
              have hcz22_3 : w5.cell? ⟨gb244, 3, none⟩ = some (.string a0_3) := (blk_cell BK244.out 3).trans rfl
              have hcz22_4 : w5.cell? ⟨gb244, 4, none⟩ = some (.slice A0_4 l0_4.length c0_4) := (blk_cell BK244.out 4).trans rfl
              have hcz22_5 : w5.cell? ⟨gb244, 5, none⟩ = some (.slice A0_5 l0_5.length c0_5) := (blk_cell BK244.out 5).trans rfl
              have hfz22_0 := blk_frozen BK244.out 0
              have hfz22_1 := blk_frozen BK244.out 1
              have hfz22_2 := blk_frozen BK244.out 2
              have hfz22_3 := blk_frozen BK244.out 3
              have hfz22_4 := blk_frozen BK244.out 4
              have hfz22_5 := blk_frozen BK244.out 5
              have hcz23_0 : w5.cell? ⟨gb245, 0, none⟩ = some (.bool a1_0) := (blk_cell BK245.out 0).trans rfl
              have hcz23_1 : w5.cell? ⟨gb245, 1, none⟩ = some (.bool a1_1) := (blk_cell BK245.out 1).trans rfl
              have hcz23_2 : w5.cell? ⟨gb245, 2, none⟩ = some (.bool a1_2) := (blk_cell BK245.out 2).trans rfl
              have hcz23_3 : w5.cell? ⟨gb245, 3, none⟩ = some (.string a1_3) := (blk_cell BK245.out 3).trans rfl
              have hcz23_4 : w5.cell? ⟨gb245, 4, none⟩ = some (.slice A1_4 l1_4.length c1_4) := (blk_cell BK245.out 4).trans rfl
              have hcz23_5 : w5.cell? ⟨gb245, 5, none⟩ = some (.slice A1_5 l1_5.length c1_5) := (blk_cell BK245.out 5).trans rfl
              have hfz23_0 := blk_frozen BK245.out 0
              have hfz23_1 := blk_frozen BK245.out 1
              have hfz23_2 := blk_frozen BK245.out 2
              have hfz23_3 := blk_frozen BK245.out 3
              have hfz23_4 := blk_frozen BK245.out 4
              have hfz23_5 := blk_frozen BK245.out 5
              go_wp2_with (first | (go_at_call 70; (with_reducible refine (dobbyref14_alike.calls k _ _ l0_4 _ _ l1_4 true _ ?side1 ?side2 ?side3 ?side4 A19.out).mono ?_); (case side1 => repeat (first | exact (Kd.C_below HR0_4.out HB.out) | (with_reducible refine Kd.C_alloc ?_ _) | (with_reducible refine Kd.C_drewN ?_ _) | (with_reducible refine Kd.C_drew ?_))); (case side2 => exact HC0_4.out); (case side3 => repeat (first | exact (Kd.C_below HR1_4.out HB.out) | (with_reducible refine Kd.C_alloc ?_ _) | (with_reducible refine Kd.C_drewN ?_ _) | (with_reducible refine Kd.C_drew ?_))); (case side4 => exact HC1_4.out); rintro e w' ⟨rfl, ⟨nd, rfl⟩⟩; (try first | exact ⟨rfl, _, World.drewN_drewN _ _ _⟩ | exact ⟨rfl, _, Eq.trans (World.drewN_drewN _ _ _) (congrArg (World.drewN _) (Nat.add_assoc _ _ _))⟩)))
              repeat (go_quiet (first | (go_at_call 70; (with_reducible refine (dobbyref14_alike.calls k _ _ l0_4 _ _ l1_4 true _ ?side1 ?side2 ?side3 ?side4 A19.out).mono ?_); (case side1 => repeat (first | exact (Kd.C_below HR0_4.out HB.out) | (with_reducible refine Kd.C_alloc ?_ _) | (with_reducible refine Kd.C_drewN ?_ _) | (with_reducible refine Kd.C_drew ?_))); (case side2 => exact HC0_4.out); (case side3 => repeat (first | exact (Kd.C_below HR1_4.out HB.out) | (with_reducible refine Kd.C_alloc ?_ _) | (with_reducible refine Kd.C_drewN ?_ _) | (with_reducible refine Kd.C_drew ?_))); (case side4 => exact HC1_4.out); rintro e w' ⟨rfl, ⟨nd, rfl⟩⟩; (try first | exact ⟨rfl, _, World.drewN_drewN _ _ _⟩ | exact ⟨rfl, _, Eq.trans (World.drewN_drewN _ _ _) (congrArg (World.drewN _) (Nat.add_assoc _ _ _))⟩))); try go_wp2_with (first | (go_at_call 70; (with_reducible refine (dobbyref14_alike.calls k _ _ l0_4 _ _ l1_4 true _ ?side1 ?side2 ?side3 ?side4 A19.out).mono ?_); (case side1 => repeat (first | exact (Kd.C_below HR0_4.out HB.out) | (with_reducible refine Kd.C_alloc ?_ _) | (with_reducible refine Kd.C_drewN ?_ _) | (with_reducible refine Kd.C_drew ?_))); (case side2 => exact HC0_4.out); (case side3 => repeat (first | exact (Kd.C_below HR1_4.out HB.out) | (with_reducible refine Kd.C_alloc ?_ _) | (with_reducible refine Kd.C_drewN ?_ _) | (with_reducible refine Kd.C_drew ?_))); (case side4 => exact HC1_4.out); rintro e w' ⟨rfl, ⟨nd, rfl⟩⟩; (try first | exact ⟨rfl, _, World.drewN_drewN _ _ _⟩ | exact ⟨rfl, _, Eq.trans (World.drewN_drewN _ _ _) (congrArg (World.drewN _) (Nat.add_assoc _ _ _))⟩))))
              go_meet
              case rel => exact ⟨_, (((l0_5.length : Int) != (l1_5.length : Int))), (by first | rfl | (simp; done) | (simp [*]; done)), H', ⟨by first | omega | exact Nat.le_refl _⟩, ⟨by (with_reducible repeat (first | refine blk_drewN ?_ _ | refine blk_drew ?_ | refine blk_alloc ?_ _)); exact BK244.out⟩, ⟨by (with_reducible repeat (first | refine blk_drewN ?_ _ | refine blk_drew ?_ | refine blk_alloc ?_ _)); exact BK245.out⟩, ⟨by repeat (first | (with_reducible first | exact HB.out | apply below_alloc | apply pw_below_drewN | apply below_drew1 | refine below_set ?_ GE244.out | refine below_set ?_ GE245.out) | exact HB.out)⟩⟩
            · replace c20 := Bool.eq_false_iff.mpr c20
              subst c20
              have H1 : (dobbyref14_Same.j0 k true a0_0 a0_1 a0_2 a0_3 l0_4 l0_5 a1_0 a1_1 a1_2 a1_3 l1_4 l1_5) = some r := by rw [if_neg (show ¬ (false = true) by decide)] at H; exact H
              clear H
              have H := H1
              clear H1
              have H' := Aside0.mk H
              clear H
              have hnb24 := NB244_245.out
              have hnc24 := NB245_244.out
              have hcz25_0 : w5.cell? ⟨gb244, 0, none⟩ = some (.bool a0_0) := (blk_cell BK244.out 0).trans rfl
              have hcz25_1 : w5.cell? ⟨gb244, 1, none⟩ = some (.bool a0_1) := (blk_cell BK244.out 1).trans rfl
              have hcz25_2 : w5.cell? ⟨gb244, 2, none⟩ = some (.bool a0_2) := (blk_cell BK244.out 2).trans rfl
              have hcz25_3 : w5.cell? ⟨gb244, 3, none⟩ = some (.string a0_3) := (blk_cell BK244.out 3).trans rfl
              have hcz25_4 : w5.cell? ⟨gb244, 4, none⟩ = some (.slice A0_4 l0_4.length c0_4) := (blk_cell BK244.out 4).trans rfl
              have hcz25_5 : w5.cell? ⟨gb244, 5, none⟩ = some (.slice A0_5 l0_5.length c0_5) := (blk_cell BK244.out 5).trans rfl
              have hfz25_0 := blk_frozen BK244.out 0
              have hfz25_1 := blk_frozen BK244.out 1
              have hfz25_2 := blk_frozen BK244.out 2
              have hfz25_3 := blk_frozen BK244.out 3
              have hfz25_4 := blk_frozen BK244.out 4
              have hfz25_5 := blk_frozen BK244.out 5
              have hcz26_0 : w5.cell? ⟨gb245, 0, none⟩ = some (.bool a1_0) := (blk_cell BK245.out 0).trans rfl
              have hcz26_1 : w5.cell? ⟨gb245, 1, none⟩ = some (.bool a1_1) := (blk_cell BK245.out 1).trans rfl
              have hcz26_2 : w5.cell? ⟨gb245, 2, none⟩ = some (.bool a1_2) := (blk_cell BK245.out 2).trans rfl
              have hcz26_3 : w5.cell? ⟨gb245, 3, none⟩ = some (.string a1_3) := (blk_cell BK245.out 3).trans rfl
              have hcz26_4 : w5.cell? ⟨gb245, 4, none⟩ = some (.slice A1_4 l1_4.length c1_4) := (blk_cell BK245.out 4).trans rfl
              have hcz26_5 : w5.cell? ⟨gb245, 5, none⟩ = some (.slice A1_5 l1_5.length c1_5) := (blk_cell BK245.out 5).trans rfl
              have hfz26_0 := blk_frozen BK245.out 0
              have hfz26_1 := blk_frozen BK245.out 1
              have hfz26_2 := blk_frozen BK245.out 2
              have hfz26_3 := blk_frozen BK245.out 3
              have hfz26_4 := blk_frozen BK245.out 4
              have hfz26_5 := blk_frozen BK245.out 5
              go_wp2_with (first | (go_at_call 70; (with_reducible refine (dobbyref14_alike.calls k _ _ l0_4 _ _ l1_4 false _ ?side1 ?side2 ?side3 ?side4 A19.out).mono ?_); (case side1 => repeat (first | exact (Kd.C_below HR0_4.out HB.out) | (with_reducible refine Kd.C_alloc ?_ _) | (with_reducible refine Kd.C_drewN ?_ _) | (with_reducible refine Kd.C_drew ?_))); (case side2 => exact HC0_4.out); (case side3 => repeat (first | exact (Kd.C_below HR1_4.out HB.out) | (with_reducible refine Kd.C_alloc ?_ _) | (with_reducible refine Kd.C_drewN ?_ _) | (with_reducible refine Kd.C_drew ?_))); (case side4 => exact HC1_4.out); rintro e w' ⟨rfl, ⟨nd, rfl⟩⟩; (try first | exact ⟨rfl, _, World.drewN_drewN _ _ _⟩ | exact ⟨rfl, _, Eq.trans (World.drewN_drewN _ _ _) (congrArg (World.drewN _) (Nat.add_assoc _ _ _))⟩)))
              repeat (go_quiet (first | (go_at_call 70; (with_reducible refine (dobbyref14_alike.calls k _ _ l0_4 _ _ l1_4 false _ ?side1 ?side2 ?side3 ?side4 A19.out).mono ?_); (case side1 => repeat (first | exact (Kd.C_below HR0_4.out HB.out) | (with_reducible refine Kd.C_alloc ?_ _) | (with_reducible refine Kd.C_drewN ?_ _) | (with_reducible refine Kd.C_drew ?_))); (case side2 => exact HC0_4.out); (case side3 => repeat (first | exact (Kd.C_below HR1_4.out HB.out) | (with_reducible refine Kd.C_alloc ?_ _) | (with_reducible refine Kd.C_drewN ?_ _) | (with_reducible refine Kd.C_drew ?_))); (case side4 => exact HC1_4.out); rintro e w' ⟨rfl, ⟨nd, rfl⟩⟩; (try first | exact ⟨rfl, _, World.drewN_drewN _ _ _⟩ | exact ⟨rfl, _, Eq.trans (World.drewN_drewN _ _ _) (congrArg (World.drewN _) (Nat.add_assoc _ _ _))⟩))); try go_wp2_with (first | (go_at_call 70; (with_reducible refine (dobbyref14_alike.calls k _ _ l0_4 _ _ l1_4 false _ ?side1 ?side2 ?side3 ?side4 A19.out).mono ?_); (case side1 => repeat (first | exact (Kd.C_below HR0_4.out HB.out) | (with_reducible refine Kd.C_alloc ?_ _) | (with_reducible refine Kd.C_drewN ?_ _) | (with_reducible refine Kd.C_drew ?_))); (case side2 => exact HC0_4.out); (case side3 => repeat (first | exact (Kd.C_below HR1_4.out HB.out) | (with_reducible refine Kd.C_alloc ?_ _) | (with_reducible refine Kd.C_drewN ?_ _) | (with_reducible refine Kd.C_drew ?_))); (case side4 => exact HC1_4.out); rintro e w' ⟨rfl, ⟨nd, rfl⟩⟩; (try first | exact ⟨rfl, _, World.drewN_drewN _ _ _⟩ | exact ⟨rfl, _, Eq.trans (World.drewN_drewN _ _ _) (congrArg (World.drewN _) (Nat.add_assoc _ _ _))⟩))))
              go_meet
              case rel => exact ⟨_, (true), (by first | rfl | (simp; done) | (simp [*]; done)), H', ⟨by first | omega | exact Nat.le_refl _⟩, ⟨by (with_reducible repeat (first | refine blk_drewN ?_ _ | refine blk_drew ?_ | refine blk_alloc ?_ _)); exact BK244.out⟩, ⟨by (with_reducible repeat (first | refine blk_drewN ?_ _ | refine blk_drew ?_ | refine blk_alloc ?_ _)); exact BK245.out⟩, ⟨by repeat (first | (with_reducible first | exact HB.out | apply below_alloc | apply pw_below_drewN | apply below_drew1 | refine below_set ?_ GE244.out | refine below_set ?_ GE245.out) | exact HB.out)⟩⟩
          · rw [if_neg c18] at H
            have c18b0 : (a0_3.toList == a1_3.toList) = false := beq_eq_false_iff_ne.mpr c18
            have c18b1 : (a0_3.toList != a1_3.toList) = true := bne_iff_ne.mpr c18
            have H' := Aside0.mk H
            clear H
            have hnb27 := NB244_245.out
            have hnc27 := NB245_244.out
            have hcz28_0 : w5.cell? ⟨gb244, 0, none⟩ = some (.bool a0_0) := (blk_cell BK244.out 0).trans rfl
            have hcz28_1 : w5.cell? ⟨gb244, 1, none⟩ = some (.bool a0_1) := (blk_cell BK244.out 1).trans rfl
            have hcz28_2 : w5.cell? ⟨gb244, 2, none⟩ = some (.bool a0_2) := (blk_cell BK244.out 2).trans rfl
            have hcz28_3 : w5.cell? ⟨gb244, 3, none⟩ = some (.string a0_3) := (blk_cell BK244.out 3).trans rfl
            have hcz28_4 : w5.cell? ⟨gb244, 4, none⟩ = some (.slice A0_4 l0_4.length c0_4) := (blk_cell BK244.out 4).trans rfl
            have hcz28_5 : w5.cell? ⟨gb244, 5, none⟩ = some (.slice A0_5 l0_5.length c0_5) := (blk_cell BK244.out 5).trans rfl
            have hfz28_0 := blk_frozen BK244.out 0
            have hfz28_1 := blk_frozen BK244.out 1
            have hfz28_2 := blk_frozen BK244.out 2
            have hfz28_3 := blk_frozen BK244.out 3
            have hfz28_4 := blk_frozen BK244.out 4
            have hfz28_5 := blk_frozen BK244.out 5
            have hcz29_0 : w5.cell? ⟨gb245, 0, none⟩ = some (.bool a1_0) := (blk_cell BK245.out 0).trans rfl
            have hcz29_1 : w5.cell? ⟨gb245, 1, none⟩ = some (.bool a1_1) := (blk_cell BK245.out 1).trans rfl
            have hcz29_2 : w5.cell? ⟨gb245, 2, none⟩ = some (.bool a1_2) := (blk_cell BK245.out 2).trans rfl
            have hcz29_3 : w5.cell? ⟨gb245, 3, none⟩ = some (.string a1_3) := (blk_cell BK245.out 3).trans rfl
            have hcz29_4 : w5.cell? ⟨gb245, 4, none⟩ = some (.slice A1_4 l1_4.length c1_4) := (blk_cell BK245.out 4).trans rfl
            have hcz29_5 : w5.cell? ⟨gb245, 5, none⟩ = some (.slice A1_5 l1_5.length c1_5) := (blk_cell BK245.out 5).trans rfl
            have hfz29_0 := blk_frozen BK245.out 0
            have hfz29_1 := blk_frozen BK245.out 1
            have hfz29_2 := blk_frozen BK245.out 2
            have hfz29_3 := blk_frozen BK245.out 3
            have hfz29_4 := blk_frozen BK245.out 4
            have hfz29_5 := blk_frozen BK245.out 5
            go_wp2
            repeat (go_quiet (fail); try go_wp2)
            go_meet
            case rel => exact ⟨_, (true), (by first | rfl | (simp; done) | (simp [*]; done)), H', ⟨by first | omega | exact Nat.le_refl _⟩, ⟨by (with_reducible repeat (first | refine blk_drewN ?_ _ | refine blk_drew ?_ | refine blk_alloc ?_ _)); exact BK244.out⟩, ⟨by (with_reducible repeat (first | refine blk_drewN ?_ _ | refine blk_drew ?_ | refine blk_alloc ?_ _)); exact BK245.out⟩, ⟨by repeat (first | (with_reducible first | exact HB.out | apply below_alloc | apply pw_below_drewN | apply below_drew1 | refine below_set ?_ GE244.out | refine below_set ?_ GE245.out) | exact HB.out)⟩⟩
  case rest =>
    clear HC3
    try clear c1
    try clear c2
    try clear p2
    try clear c6
    try clear c6b0
    try clear c6b1
    try clear c6b2
    try clear c7
    try clear c10
    try clear c10b0
    try clear c10b1
    try clear c10b2
    try clear c11
    try clear c13
    try clear c14
    try clear c14b0
    try clear c14b1
    try clear c14b2
    try clear c15
    try clear c18
    try clear c18b0
    try clear c18b1
    try clear c20
    try clear c21
    try clear c24
    try clear c27
    try clear hcz12_0
    try clear hcz12_1
    try clear hcz12_2
    try clear hcz12_3
    try clear hcz12_4
    try clear hcz12_5
    try clear hcz13_0
    try clear hcz13_1
    try clear hcz13_2
    try clear hcz13_3
    try clear hcz13_4
    try clear hcz13_5
    try clear hcz16_0
    try clear hcz16_1
    try clear hcz16_2
    try clear hcz16_3
    try clear hcz16_4
    try clear hcz16_5
    try clear hcz17_0
    try clear hcz17_1
    try clear hcz17_2
    try clear hcz17_3
    try clear hcz17_4
    try clear hcz17_5
    try clear hcz22_0
    try clear hcz22_1
    try clear hcz22_2
    try clear hcz22_3
    try clear hcz22_4
    try clear hcz22_5
    try clear hcz23_0
    try clear hcz23_1
    try clear hcz23_2
    try clear hcz23_3
    try clear hcz23_4
    try clear hcz23_5
    try clear hcz25_0
    try clear hcz25_1
    try clear hcz25_2
    try clear hcz25_3
    try clear hcz25_4
    try clear hcz25_5
    try clear hcz26_0
    try clear hcz26_1
    try clear hcz26_2
    try clear hcz26_3
    try clear hcz26_4
    try clear hcz26_5
    try clear hcz28_0
    try clear hcz28_1
    try clear hcz28_2
    try clear hcz28_3
    try clear hcz28_4
    try clear hcz28_5
    try clear hcz29_0
    try clear hcz29_1
    try clear hcz29_2
    try clear hcz29_3
    try clear hcz29_4
    try clear hcz29_5
    try clear hcz8_0
    try clear hcz8_1
    try clear hcz8_2
    try clear hcz8_3
    try clear hcz8_4
    try clear hcz8_5
    try clear hcz9_0
    try clear hcz9_1
    try clear hcz9_2
    try clear hcz9_3
    try clear hcz9_4
    try clear hcz9_5
    try clear hfz12_0
    try clear hfz12_1
    try clear hfz12_2
    try clear hfz12_3
    try clear hfz12_4
    try clear hfz12_5
    try clear hfz13_0
    try clear hfz13_1
    try clear hfz13_2
    try clear hfz13_3
    try clear hfz13_4
    try clear hfz13_5
    try clear hfz16_0
    try clear hfz16_1
    try clear hfz16_2
    try clear hfz16_3
    try clear hfz16_4
    try clear hfz16_5
    try clear hfz17_0
    try clear hfz17_1
    try clear hfz17_2
    try clear hfz17_3
    try clear hfz17_4
    try clear hfz17_5
    try clear hfz22_0
    try clear hfz22_1
    try clear hfz22_2
    try clear hfz22_3
    try clear hfz22_4
    try clear hfz22_5
    try clear hfz23_0
    try clear hfz23_1
    try clear hfz23_2
    try clear hfz23_3
    try clear hfz23_4
    try clear hfz23_5
    try clear hfz25_0
    try clear hfz25_1
    try clear hfz25_2
    try clear hfz25_3
    try clear hfz25_4
    try clear hfz25_5
    try clear hfz26_0
    try clear hfz26_1
    try clear hfz26_2
    try clear hfz26_3
    try clear hfz26_4
    try clear hfz26_5
    try clear hfz28_0
    try clear hfz28_1
    try clear hfz28_2
    try clear hfz28_3
    try clear hfz28_4
    try clear hfz28_5
    try clear hfz29_0
    try clear hfz29_1
    try clear hfz29_2
    try clear hfz29_3
    try clear hfz29_4
    try clear hfz29_5
    try clear hfz8_0
    try clear hfz8_1
    try clear hfz8_2
    try clear hfz8_3
    try clear hfz8_4
    try clear hfz8_5
    try clear hfz9_0
    try clear hfz9_1
    try clear hfz9_2
    try clear hfz9_3
    try clear hfz9_4
    try clear hfz9_5
    obtain ⟨kq, x48_2, rfl, HA, HJ2, BK244, BK245, HB⟩ := hcut
    cases kq with
    | zero => exact absurd HA.out (by simp [dobbyref14_Same.j0])
    | succ kj2 =>
      have H := HA.out
      clear HA
      simp only [dobbyref14_Same.j0] at H
      by_cases c30 : x48_2 = true
      · subst c30
        have H1 : (some false) = some r := by rw [if_pos rfl] at H; exact H
        clear H
        have H := H1
        clear H1
        obtain rfl := Option.some.inj H
        go_wp2
        repeat (go_quiet (fail); try go_wp2)
        go_ret
        exact ⟨by first | rfl | (simp [errW_none, errW_some] <;> rfl) | (simp [*, errW_none, errW_some] <;> rfl), by repeat (first | (with_reducible first | exact HB.out | apply below_alloc | apply pw_below_drewN | apply below_drew1 | refine below_set ?_ GE244.out | refine below_set ?_ GE245.out) | exact HB.out)⟩
      · replace c30 := Bool.eq_false_iff.mpr c30
        subst c30
        have H1 : (dobbyref14_Same.l0 kj2 0 a0_0 a0_1 a0_2 a0_3 l0_4 l0_5 a1_0 a1_1 a1_2 a1_3 l1_4 l1_5) = some r := by rw [if_neg (show ¬ (false = true) by decide)] at H; exact H
        clear H
        have H := H1
        clear H1
        have H' := Aside0.mk H
        clear H
        go_wp2
        repeat (go_quiet (fail); try go_wp2)
        go_loopg [5] kj2 (fun kq v5 w' => ∃ (x5_2 : Int), v5 = .int .i64 x5_2 ∧ Aside0 (dobbyref14_Same.l0 kq x5_2 a0_0 a0_1 a0_2 a0_3 l0_4 l0_5 a1_0 a1_1 a1_2 a1_3 l1_4 l1_5 = some r) ∧ Aside0 (kq ≤ kj2) ∧ Aside0 (w'.heap[gb244]? = some (.cells #[.bool a0_0, .bool a0_1, .bool a0_2, .string a0_3, (.slice A0_4 l0_4.length c0_4), (.slice A0_5 l0_5.length c0_5)] 25 (0, 0))) ∧ Aside0 (w'.heap[gb245]? = some (.cells #[.bool a1_0, .bool a1_1, .bool a1_2, .string a1_3, (.slice A1_4 l1_4.length c1_4), (.slice A1_5 l1_5.length c1_5)] 25 (0, 0))) ∧ Aside0 (Below w.heap.size w w'))
        case atStart => exact ⟨(0), (by first | rfl | (simp; done) | (simp [*]; done)), H', ⟨Nat.le_refl _⟩, ⟨by (with_reducible repeat (first | refine blk_drewN ?_ _ | refine blk_drew ?_ | refine blk_alloc ?_ _)); exact BK244.out⟩, ⟨by (with_reducible repeat (first | refine blk_drewN ?_ _ | refine blk_drew ?_ | refine blk_alloc ?_ _)); exact BK245.out⟩, ⟨by repeat (first | (with_reducible first | exact HB.out | apply below_alloc | apply pw_below_drewN | apply below_drew1 | refine below_set ?_ GE244.out | refine below_set ?_ GE245.out) | exact HB.out)⟩⟩
        case round =>
          clear H'
          try clear c1
          try clear c2
          try clear p2
          try clear c3
          try clear c6
          try clear c6b0
          try clear c6b1
          try clear c6b2
          try clear c7
          try clear c10
          try clear c10b0
          try clear c10b1
          try clear c10b2
          try clear c11
          try clear c13
          try clear c14
          try clear c14b0
          try clear c14b1
          try clear c14b2
          try clear c15
          try clear c18
          try clear c18b0
          try clear c18b1
          try clear c20
          try clear c21
          try clear c24
          try clear c27
          try clear c30
          try clear hcz12_0
          try clear hcz12_1
          try clear hcz12_2
          try clear hcz12_3
          try clear hcz12_4
          try clear hcz12_5
          try clear hcz13_0
          try clear hcz13_1
          try clear hcz13_2
          try clear hcz13_3
          try clear hcz13_4
          try clear hcz13_5
          try clear hcz16_0
          try clear hcz16_1
          try clear hcz16_2
          try clear hcz16_3
          try clear hcz16_4
          try clear hcz16_5
          try clear hcz17_0
          try clear hcz17_1
          try clear hcz17_2
          try clear hcz17_3
          try clear hcz17_4
          try clear hcz17_5
          try clear hcz22_0
          try clear hcz22_1
          try clear hcz22_2
          try clear hcz22_3
          try clear hcz22_4
          try clear hcz22_5
          try clear hcz23_0
          try clear hcz23_1
          try clear hcz23_2
          try clear hcz23_3
          try clear hcz23_4
          try clear hcz23_5
          try clear hcz25_0
          try clear hcz25_1
          try clear hcz25_2
          try clear hcz25_3
          try clear hcz25_4
          try clear hcz25_5
          try clear hcz26_0
          try clear hcz26_1
          try clear hcz26_2
          try clear hcz26_3
          try clear hcz26_4
          try clear hcz26_5
          try clear hcz28_0
          try clear hcz28_1
          try clear hcz28_2
          try clear hcz28_3
          try clear hcz28_4
          try clear hcz28_5
          try clear hcz29_0
          try clear hcz29_1
          try clear hcz29_2
          try clear hcz29_3
          try clear hcz29_4
          try clear hcz29_5
          try clear hcz8_0
          try clear hcz8_1
          try clear hcz8_2
          try clear hcz8_3
          try clear hcz8_4
          try clear hcz8_5
          try clear hcz9_0
          try clear hcz9_1
          try clear hcz9_2
          try clear hcz9_3
          try clear hcz9_4
          try clear hcz9_5
          try clear hfz12_0
          try clear hfz12_1
          try clear hfz12_2
          try clear hfz12_3
          try clear hfz12_4
          try clear hfz12_5
          try clear hfz13_0
          try clear hfz13_1
          try clear hfz13_2
          try clear hfz13_3
          try clear hfz13_4
          try clear hfz13_5
          try clear hfz16_0
          try clear hfz16_1
          try clear hfz16_2
          try clear hfz16_3
          try clear hfz16_4
          try clear hfz16_5
          try clear hfz17_0
          try clear hfz17_1
          try clear hfz17_2
          try clear hfz17_3
          try clear hfz17_4
          try clear hfz17_5
          try clear hfz22_0
          try clear hfz22_1
          try clear hfz22_2
          try clear hfz22_3
          try clear hfz22_4
          try clear hfz22_5
          try clear hfz23_0
          try clear hfz23_1
          try clear hfz23_2
          try clear hfz23_3
          try clear hfz23_4
          try clear hfz23_5
          try clear hfz25_0
          try clear hfz25_1
          try clear hfz25_2
          try clear hfz25_3
          try clear hfz25_4
          try clear hfz25_5
          try clear hfz26_0
          try clear hfz26_1
          try clear hfz26_2
          try clear hfz26_3
          try clear hfz26_4
          try clear hfz26_5
          try clear hfz28_0
          try clear hfz28_1
          try clear hfz28_2
          try clear hfz28_3
          try clear hfz28_4
          try clear hfz28_5
          try clear hfz29_0
          try clear hfz29_1
          try clear hfz29_2
          try clear hfz29_3
          try clear hfz29_4
          try clear hfz29_5
          try clear hfz8_0
          try clear hfz8_1
          try clear hfz8_2
          try clear hfz8_3
          try clear hfz8_4
          try clear hfz8_5
          try clear hfz9_0
          try clear hfz9_1
          try clear hfz9_2
          try clear hfz9_3
          try clear hfz9_4
          try clear hfz9_5
          try clear p2
          obtain ⟨x5_2, rfl, HA, HK2, BK244, BK245, HB⟩ := hrel
          cases gk with
          | zero => exact absurd HA.out (by simp [dobbyref14_Same.l0])
          | succ k2 =>
            have H := HA.out
            clear HA
            simp only [dobbyref14_Same.l0] at H
            by_cases c31 : x5_2 < (l0_5.length : Int)
            · rw [if_pos c31] at H
              have c31b0 : decide (x5_2 < (l0_5.length : Int)) = true := decide_eq_true c31
              clear c31
              by_cases c32 : 0 ≤ x5_2
              · rw [if_pos c32] at H
                have c32b0 : decide (0 ≤ x5_2) = true := decide_eq_true c32
                clear c32
                by_cases c33 : x5_2 < (l1_5.length : Int)
                · rw [if_pos c33] at H
                  have c33b0 : decide (x5_2 < (l1_5.length : Int)) = true := decide_eq_true c33
                  clear c33
                  by_cases c34 : ((rd_T103 l0_5 x5_2).f0) = ((rd_T103 l1_5 x5_2).f0)
                  · rw [if_pos c34] at H
                    have c34b0 : (((rd_T103 l0_5 x5_2).f0) == ((rd_T103 l1_5 x5_2).f0)) = true := beq_iff_eq.mpr c34
                    have c34b1 : (((rd_T103 l0_5 x5_2).f0) != ((rd_T103 l1_5 x5_2).f0)) = false := bne_eq_false_iff_eq.mpr c34
                    clear c34
                    replace H := Option.bind_eq_some_iff.mp H
                    obtain ⟨t251, A350, H⟩ := H
                    replace H : (if t251 = true then (dobbyref14_Same.l0 k2 (wrap64 (x5_2 + 1)) a0_0 a0_1 a0_2 a0_3 l0_4 l0_5 a1_0 a1_1 a1_2 a1_3 l1_4 l1_5) else (some false)) = some r := H
                    have A35 := Aside0.mk A350
                    clear A350
                    by_cases c36 : t251 = true
                    · subst c36
                      have H1 : (dobbyref14_Same.l0 k2 (wrap64 (x5_2 + 1)) a0_0 a0_1 a0_2 a0_3 l0_4 l0_5 a1_0 a1_1 a1_2 a1_3 l1_4 l1_5) = some r := by rw [if_pos rfl] at H; exact H
                      clear H
                      have H := H1
                      clear H1
                      have H' := Aside0.mk H
                      clear H
                      have hnb37 := NB244_245.out
                      have hnc37 := NB245_244.out
                      have hcz38_0 : wr.cell? ⟨gb244, 0, none⟩ = some (.bool a0_0) := (blk_cell BK244.out 0).trans rfl
                      have hcz38_1 : wr.cell? ⟨gb244, 1, none⟩ = some (.bool a0_1) := (blk_cell BK244.out 1).trans rfl
                      have hcz38_2 : wr.cell? ⟨gb244, 2, none⟩ = some (.bool a0_2) := (blk_cell BK244.out 2).trans rfl
                      have hcz38_3 : wr.cell? ⟨gb244, 3, none⟩ = some (.string a0_3) := (blk_cell BK244.out 3).trans rfl
                      have hcz38_4 : wr.cell? ⟨gb244, 4, none⟩ = some (.slice A0_4 l0_4.length c0_4) := (blk_cell BK244.out 4).trans rfl
                      have hcz38_5 : wr.cell? ⟨gb244, 5, none⟩ = some (.slice A0_5 l0_5.length c0_5) := (blk_cell BK244.out 5).trans rfl
                      have hfz38_0 := blk_frozen BK244.out 0
                      have hfz38_1 := blk_frozen BK244.out 1
                      have hfz38_2 := blk_frozen BK244.out 2
                      have hfz38_3 := blk_frozen BK244.out 3
                      have hfz38_4 := blk_frozen BK244.out 4
                      have hfz38_5 := blk_frozen BK244.out 5
                      have p247 : 0 ≤ (x5_2 : Int) := of_decide_eq_true (by first | (with_reducible assumption) | assumption)
                      have q247 : x5_2 < (l0_5.length : Int) := of_decide_eq_true (by first | (with_reducible assumption) | assumption)
                      obtain ⟨ad247, A247_1, c247_1, e247, hx247_0, hx247_1, hl247_1, hi247_1⟩ := at_T103 HR0_5.out x5_2 p247 q247
                      cases e247
                      replace hx247_0 := (HB.out.cell (World.block_lt_of_cell? w _ hx247_0)).trans hx247_0
                      replace hx247_1 := (HB.out.cell (World.block_lt_of_cell? w _ hx247_1)).trans hx247_1
                      have HR247_1 := Aside0.mk hi247_1
                      have HC247_1 := Aside0.mk hl247_1
                      clear hi247_1 hl247_1
                      replace p247 := eq_true p247
                      replace q247 := eq_true q247
                      have hcz39_0 : wr.cell? ⟨gb245, 0, none⟩ = some (.bool a1_0) := (blk_cell BK245.out 0).trans rfl
                      have hcz39_1 : wr.cell? ⟨gb245, 1, none⟩ = some (.bool a1_1) := (blk_cell BK245.out 1).trans rfl
                      have hcz39_2 : wr.cell? ⟨gb245, 2, none⟩ = some (.bool a1_2) := (blk_cell BK245.out 2).trans rfl
                      have hcz39_3 : wr.cell? ⟨gb245, 3, none⟩ = some (.string a1_3) := (blk_cell BK245.out 3).trans rfl
                      have hcz39_4 : wr.cell? ⟨gb245, 4, none⟩ = some (.slice A1_4 l1_4.length c1_4) := (blk_cell BK245.out 4).trans rfl
                      have hcz39_5 : wr.cell? ⟨gb245, 5, none⟩ = some (.slice A1_5 l1_5.length c1_5) := (blk_cell BK245.out 5).trans rfl
                      have hfz39_0 := blk_frozen BK245.out 0
                      have hfz39_1 := blk_frozen BK245.out 1
                      have hfz39_2 := blk_frozen BK245.out 2
                      have hfz39_3 := blk_frozen BK245.out 3
                      have hfz39_4 := blk_frozen BK245.out 4
                      have hfz39_5 := blk_frozen BK245.out 5
                      have p248 : 0 ≤ (x5_2 : Int) := of_decide_eq_true (by first | (with_reducible assumption) | assumption)
                      have q248 : x5_2 < (l1_5.length : Int) := of_decide_eq_true (by first | (with_reducible assumption) | assumption)
                      obtain ⟨ad248, A248_1, c248_1, e248, hx248_0, hx248_1, hl248_1, hi248_1⟩ := at_T103 HR1_5.out x5_2 p248 q248
                      cases e248
                      replace hx248_0 := (HB.out.cell (World.block_lt_of_cell? w _ hx248_0)).trans hx248_0
                      replace hx248_1 := (HB.out.cell (World.block_lt_of_cell? w _ hx248_1)).trans hx248_1
                      have HR248_1 := Aside0.mk hi248_1
                      have HC248_1 := Aside0.mk hl248_1
                      clear hi248_1 hl248_1
                      replace p248 := eq_true p248
                      replace q248 := eq_true q248
                      have p249 : 0 ≤ (x5_2 : Int) := of_decide_eq_true (by first | (with_reducible assumption) | assumption)
                      have q249 : x5_2 < (l0_5.length : Int) := of_decide_eq_true (by first | (with_reducible assumption) | assumption)
                      obtain ⟨ad249, A249_1, c249_1, e249, hx249_0, hx249_1, hl249_1, hi249_1⟩ := at_T103 HR0_5.out x5_2 p249 q249
                      obtain rfl : ad247 = ad249 := (by injection e249)
                      replace hx249_0 := (HB.out.cell (World.block_lt_of_cell? w _ hx249_0)).trans hx249_0
                      replace hx249_1 := (HB.out.cell (World.block_lt_of_cell? w _ hx249_1)).trans hx249_1
                      have HR249_1 := Aside0.mk hi249_1
                      have HC249_1 := Aside0.mk hl249_1
                      clear hi249_1 hl249_1
                      replace p249 := eq_true p249
                      replace q249 := eq_true q249
                      have ea_ := Option.some.inj (hx247_1.symm.trans hx249_1)
                      injection ea_ with ea_ en_ ec_
                      subst ea_
                      subst ec_
                      clear en_
                      have p250 : 0 ≤ (x5_2 : Int) := of_decide_eq_true (by first | (with_reducible assumption) | assumption)
                      have q250 : x5_2 < (l1_5.length : Int) := of_decide_eq_true (by first | (with_reducible assumption) | assumption)
                      obtain ⟨ad250, A250_1, c250_1, e250, hx250_0, hx250_1, hl250_1, hi250_1⟩ := at_T103 HR1_5.out x5_2 p250 q250
                      obtain rfl : ad248 = ad250 := (by injection e250)
                      replace hx250_0 := (HB.out.cell (World.block_lt_of_cell? w _ hx250_0)).trans hx250_0
                      replace hx250_1 := (HB.out.cell (World.block_lt_of_cell? w _ hx250_1)).trans hx250_1
                      have HR250_1 := Aside0.mk hi250_1
                      have HC250_1 := Aside0.mk hl250_1
                      clear hi250_1 hl250_1
                      replace p250 := eq_true p250
                      replace q250 := eq_true q250
                      have ea_ := Option.some.inj (hx248_1.symm.trans hx250_1)
                      injection ea_ with ea_ en_ ec_
                      subst ea_
                      subst ec_
                      clear en_
                      go_wp2_with (first | (go_at_call 70; (with_reducible refine (dobbyref14_alike.calls k2 _ _ ((rd_T103 l0_5 x5_2).f1) _ _ ((rd_T103 l1_5 x5_2).f1) true _ ?side1 ?side2 ?side3 ?side4 A35.out).mono ?_); (case side1 => repeat (first | exact (Kd.C_below HR249_1.out HB.out) | (with_reducible refine Kd.C_alloc ?_ _) | (with_reducible refine Kd.C_drewN ?_ _) | (with_reducible refine Kd.C_drew ?_))); (case side2 => exact HC249_1.out); (case side3 => repeat (first | exact (Kd.C_below HR250_1.out HB.out) | (with_reducible refine Kd.C_alloc ?_ _) | (with_reducible refine Kd.C_drewN ?_ _) | (with_reducible refine Kd.C_drew ?_))); (case side4 => exact HC250_1.out); rintro e w' ⟨rfl, ⟨nd, rfl⟩⟩; (try first | exact ⟨rfl, _, World.drewN_drewN _ _ _⟩ | exact ⟨rfl, _, Eq.trans (World.drewN_drewN _ _ _) (congrArg (World.drewN _) (Nat.add_assoc _ _ _))⟩)))
                      repeat (go_quiet (first | (go_at_call 70; (with_reducible refine (dobbyref14_alike.calls k2 _ _ ((rd_T103 l0_5 x5_2).f1) _ _ ((rd_T103 l1_5 x5_2).f1) true _ ?side1 ?side2 ?side3 ?side4 A35.out).mono ?_); (case side1 => repeat (first | exact (Kd.C_below HR249_1.out HB.out) | (with_reducible refine Kd.C_alloc ?_ _) | (with_reducible refine Kd.C_drewN ?_ _) | (with_reducible refine Kd.C_drew ?_))); (case side2 => exact HC249_1.out); (case side3 => repeat (first | exact (Kd.C_below HR250_1.out HB.out) | (with_reducible refine Kd.C_alloc ?_ _) | (with_reducible refine Kd.C_drewN ?_ _) | (with_reducible refine Kd.C_drew ?_))); (case side4 => exact HC250_1.out); rintro e w' ⟨rfl, ⟨nd, rfl⟩⟩; (try first | exact ⟨rfl, _, World.drewN_drewN _ _ _⟩ | exact ⟨rfl, _, Eq.trans (World.drewN_drewN _ _ _) (congrArg (World.drewN _) (Nat.add_assoc _ _ _))⟩))); try go_wp2_with (first | (go_at_call 70; (with_reducible refine (dobbyref14_alike.calls k2 _ _ ((rd_T103 l0_5 x5_2).f1) _ _ ((rd_T103 l1_5 x5_2).f1) true _ ?side1 ?side2 ?side3 ?side4 A35.out).mono ?_); (case side1 => repeat (first | exact (Kd.C_below HR249_1.out HB.out) | (with_reducible refine Kd.C_alloc ?_ _) | (with_reducible refine Kd.C_drewN ?_ _) | (with_reducible refine Kd.C_drew ?_))); (case side2 => exact HC249_1.out); (case side3 => repeat (first | exact (Kd.C_below HR250_1.out HB.out) | (with_reducible refine Kd.C_alloc ?_ _) | (with_reducible refine Kd.C_drewN ?_ _) | (with_reducible refine Kd.C_drew ?_))); (case side4 => exact HC250_1.out); rintro e w' ⟨rfl, ⟨nd, rfl⟩⟩; (try first | exact ⟨rfl, _, World.drewN_drewN _ _ _⟩ | exact ⟨rfl, _, Eq.trans (World.drewN_drewN _ _ _) (congrArg (World.drewN _) (Nat.add_assoc _ _ _))⟩))))
                      go_roundg k2
                      case measure => have := HJ2.out; have := HK2.out; omega
                      case rel => exact ⟨(wrap64 (x5_2 + 1)), (by first | rfl | (simp; done) | (simp [*]; done)), H', ⟨by have := HJ2.out; have := HK2.out; omega⟩, ⟨by (with_reducible repeat (first | refine blk_drewN ?_ _ | refine blk_drew ?_ | refine blk_alloc ?_ _)); exact BK244.out⟩, ⟨by (with_reducible repeat (first | refine blk_drewN ?_ _ | refine blk_drew ?_ | refine blk_alloc ?_ _)); exact BK245.out⟩, ⟨by repeat (first | (with_reducible first | exact HB.out | apply below_alloc | apply pw_below_drewN | apply below_drew1 | refine below_set ?_ GE244.out | refine below_set ?_ GE245.out) | exact HB.out)⟩⟩
                    · replace c36 := Bool.eq_false_iff.mpr c36
                      subst c36
                      have H1 : (some false) = some r := by rw [if_neg (show ¬ (false = true) by decide)] at H; exact H
                      clear H
                      have H := H1
                      clear H1
                      obtain rfl := Option.some.inj H
                      have hnb40 := NB244_245.out
                      have hnc40 := NB245_244.out
                      have hcz41_0 : wr.cell? ⟨gb244, 0, none⟩ = some (.bool a0_0) := (blk_cell BK244.out 0).trans rfl
                      have hcz41_1 : wr.cell? ⟨gb244, 1, none⟩ = some (.bool a0_1) := (blk_cell BK244.out 1).trans rfl
                      have hcz41_2 : wr.cell? ⟨gb244, 2, none⟩ = some (.bool a0_2) := (blk_cell BK244.out 2).trans rfl
                      have hcz41_3 : wr.cell? ⟨gb244, 3, none⟩ = some (.string a0_3) := (blk_cell BK244.out 3).trans rfl
                      have hcz41_4 : wr.cell? ⟨gb244, 4, none⟩ = some (.slice A0_4 l0_4.length c0_4) := (blk_cell BK244.out 4).trans rfl
                      have hcz41_5 : wr.cell? ⟨gb244, 5, none⟩ = some (.slice A0_5 l0_5.length c0_5) := (blk_cell BK244.out 5).trans rfl
                      have hfz41_0 := blk_frozen BK244.out 0
                      have hfz41_1 := blk_frozen BK244.out 1
                      have hfz41_2 := blk_frozen BK244.out 2
                      have hfz41_3 := blk_frozen BK244.out 3
                      have hfz41_4 := blk_frozen BK244.out 4
                      have hfz41_5 := blk_frozen BK244.out 5
                      have p247 : 0 ≤ (x5_2 : Int) := of_decide_eq_true (by first | (with_reducible assumption) | assumption)
                      have q247 : x5_2 < (l0_5.length : Int) := of_decide_eq_true (by first | (with_reducible assumption) | assumption)
                      obtain ⟨ad247, A247_1, c247_1, e247, hx247_0, hx247_1, hl247_1, hi247_1⟩ := at_T103 HR0_5.out x5_2 p247 q247
                      cases e247
                      replace hx247_0 := (HB.out.cell (World.block_lt_of_cell? w _ hx247_0)).trans hx247_0
                      replace hx247_1 := (HB.out.cell (World.block_lt_of_cell? w _ hx247_1)).trans hx247_1
                      have HR247_1 := Aside0.mk hi247_1
                      have HC247_1 := Aside0.mk hl247_1
                      clear hi247_1 hl247_1
                      replace p247 := eq_true p247
                      replace q247 := eq_true q247
                      have hcz42_0 : wr.cell? ⟨gb245, 0, none⟩ = some (.bool a1_0) := (blk_cell BK245.out 0).trans rfl
                      have hcz42_1 : wr.cell? ⟨gb245, 1, none⟩ = some (.bool a1_1) := (blk_cell BK245.out 1).trans rfl
                      have hcz42_2 : wr.cell? ⟨gb245, 2, none⟩ = some (.bool a1_2) := (blk_cell BK245.out 2).trans rfl
                      have hcz42_3 : wr.cell? ⟨gb245, 3, none⟩ = some (.string a1_3) := (blk_cell BK245.out 3).trans rfl
                      have hcz42_4 : wr.cell? ⟨gb245, 4, none⟩ = some (.slice A1_4 l1_4.length c1_4) := (blk_cell BK245.out 4).trans rfl
                      have hcz42_5 : wr.cell? ⟨gb245, 5, none⟩ = some (.slice A1_5 l1_5.length c1_5) := (blk_cell BK245.out 5).trans rfl
                      have hfz42_0 := blk_frozen BK245.out 0
                      have hfz42_1 := blk_frozen BK245.out 1
                      have hfz42_2 := blk_frozen BK245.out 2
                      have hfz42_3 := blk_frozen BK245.out 3
                      have hfz42_4 := blk_frozen BK245.out 4
                      have hfz42_5 := blk_frozen BK245.out 5
                      have p248 : 0 ≤ (x5_2 : Int) := of_decide_eq_true (by first | (with_reducible assumption) | assumption)
                      have q248 : x5_2 < (l1_5.length : Int) := of_decide_eq_true (by first | (with_reducible assumption) | assumption)
                      obtain ⟨ad248, A248_1, c248_1, e248, hx248_0, hx248_1, hl248_1, hi248_1⟩ := at_T103 HR1_5.out x5_2 p248 q248
                      cases e248
                      replace hx248_0 := (HB.out.cell (World.block_lt_of_cell? w _ hx248_0)).trans hx248_0
                      replace hx248_1 := (HB.out.cell (World.block_lt_of_cell? w _ hx248_1)).trans hx248_1
                      have HR248_1 := Aside0.mk hi248_1
                      have HC248_1 := Aside0.mk hl248_1
                      clear hi248_1 hl248_1
                      replace p248 := eq_true p248
                      replace q248 := eq_true q248
                      have p249 : 0 ≤ (x5_2 : Int) := of_decide_eq_true (by first | (with_reducible assumption) | assumption)
                      have q249 : x5_2 < (l0_5.length : Int) := of_decide_eq_true (by first | (with_reducible assumption) | assumption)
                      obtain ⟨ad249, A249_1, c249_1, e249, hx249_0, hx249_1, hl249_1, hi249_1⟩ := at_T103 HR0_5.out x5_2 p249 q249
                      obtain rfl : ad247 = ad249 := (by injection e249)
                      replace hx249_0 := (HB.out.cell (World.block_lt_of_cell? w _ hx249_0)).trans hx249_0
                      replace hx249_1 := (HB.out.cell (World.block_lt_of_cell? w _ hx249_1)).trans hx249_1
                      have HR249_1 := Aside0.mk hi249_1
                      have HC249_1 := Aside0.mk hl249_1
                      clear hi249_1 hl249_1
                      replace p249 := eq_true p249
                      replace q249 := eq_true q249
                      have ea_ := Option.some.inj (hx247_1.symm.trans hx249_1)
                      injection ea_ with ea_ en_ ec_
                      subst ea_
                      subst ec_
                      clear en_
                      have p250 : 0 ≤ (x5_2 : Int) := of_decide_eq_true (by first | (with_reducible assumption) | assumption)
                      have q250 : x5_2 < (l1_5.length : Int) := of_decide_eq_true (by first | (with_reducible assumption) | assumption)
                      obtain ⟨ad250, A250_1, c250_1, e250, hx250_0, hx250_1, hl250_1, hi250_1⟩ := at_T103 HR1_5.out x5_2 p250 q250
                      obtain rfl : ad248 = ad250 := (by injection e250)
                      replace hx250_0 := (HB.out.cell (World.block_lt_of_cell? w _ hx250_0)).trans hx250_0
                      replace hx250_1 := (HB.out.cell (World.block_lt_of_cell? w _ hx250_1)).trans hx250_1
                      have HR250_1 := Aside0.mk hi250_1
                      have HC250_1 := Aside0.mk hl250_1
                      clear hi250_1 hl250_1
                      replace p250 := eq_true p250
                      replace q250 := eq_true q250
                      have ea_ := Option.some.inj (hx248_1.symm.trans hx250_1)
                      injection ea_ with ea_ en_ ec_
                      subst ea_
                      subst ec_
                      clear en_
                      go_wp2_with (first | (go_at_call 70; (with_reducible refine (dobbyref14_alike.calls k2 _ _ ((rd_T103 l0_5 x5_2).f1) _ _ ((rd_T103 l1_5 x5_2).f1) false _ ?side1 ?side2 ?side3 ?side4 A35.out).mono ?_); (case side1 => repeat (first | exact (Kd.C_below HR249_1.out HB.out) | (with_reducible refine Kd.C_alloc ?_ _) | (with_reducible refine Kd.C_drewN ?_ _) | (with_reducible refine Kd.C_drew ?_))); (case side2 => exact HC249_1.out); (case side3 => repeat (first | exact (Kd.C_below HR250_1.out HB.out) | (with_reducible refine Kd.C_alloc ?_ _) | (with_reducible refine Kd.C_drewN ?_ _) | (with_reducible refine Kd.C_drew ?_))); (case side4 => exact HC250_1.out); rintro e w' ⟨rfl, ⟨nd, rfl⟩⟩; (try first | exact ⟨rfl, _, World.drewN_drewN _ _ _⟩ | exact ⟨rfl, _, Eq.trans (World.drewN_drewN _ _ _) (congrArg (World.drewN _) (Nat.add_assoc _ _ _))⟩)))
                      repeat (go_quiet (first | (go_at_call 70; (with_reducible refine (dobbyref14_alike.calls k2 _ _ ((rd_T103 l0_5 x5_2).f1) _ _ ((rd_T103 l1_5 x5_2).f1) false _ ?side1 ?side2 ?side3 ?side4 A35.out).mono ?_); (case side1 => repeat (first | exact (Kd.C_below HR249_1.out HB.out) | (with_reducible refine Kd.C_alloc ?_ _) | (with_reducible refine Kd.C_drewN ?_ _) | (with_reducible refine Kd.C_drew ?_))); (case side2 => exact HC249_1.out); (case side3 => repeat (first | exact (Kd.C_below HR250_1.out HB.out) | (with_reducible refine Kd.C_alloc ?_ _) | (with_reducible refine Kd.C_drewN ?_ _) | (with_reducible refine Kd.C_drew ?_))); (case side4 => exact HC250_1.out); rintro e w' ⟨rfl, ⟨nd, rfl⟩⟩; (try first | exact ⟨rfl, _, World.drewN_drewN _ _ _⟩ | exact ⟨rfl, _, Eq.trans (World.drewN_drewN _ _ _) (congrArg (World.drewN _) (Nat.add_assoc _ _ _))⟩))); try go_wp2_with (first | (go_at_call 70; (with_reducible refine (dobbyref14_alike.calls k2 _ _ ((rd_T103 l0_5 x5_2).f1) _ _ ((rd_T103 l1_5 x5_2).f1) false _ ?side1 ?side2 ?side3 ?side4 A35.out).mono ?_); (case side1 => repeat (first | exact (Kd.C_below HR249_1.out HB.out) | (with_reducible refine Kd.C_alloc ?_ _) | (with_reducible refine Kd.C_drewN ?_ _) | (with_reducible refine Kd.C_drew ?_))); (case side2 => exact HC249_1.out); (case side3 => repeat (first | exact (Kd.C_below HR250_1.out HB.out) | (with_reducible refine Kd.C_alloc ?_ _) | (with_reducible refine Kd.C_drewN ?_ _) | (with_reducible refine Kd.C_drew ?_))); (case side4 => exact HC250_1.out); rintro e w' ⟨rfl, ⟨nd, rfl⟩⟩; (try first | exact ⟨rfl, _, World.drewN_drewN _ _ _⟩ | exact ⟨rfl, _, Eq.trans (World.drewN_drewN _ _ _) (congrArg (World.drewN _) (Nat.add_assoc _ _ _))⟩))))
                      go_ret
                      exact ⟨by first | rfl | (simp [errW_none, errW_some] <;> rfl) | (simp [*, errW_none, errW_some] <;> rfl), by repeat (first | (with_reducible first | exact HB.out | apply below_alloc | apply pw_below_drewN | apply below_drew1 | refine below_set ?_ GE244.out | refine below_set ?_ GE245.out) | exact HB.out)⟩
                  · rw [if_neg c34] at H
                    have c34b0 : (((rd_T103 l0_5 x5_2).f0) == ((rd_T103 l1_5 x5_2).f0)) = false := beq_eq_false_iff_ne.mpr c34
                    have c34b1 : (((rd_T103 l0_5 x5_2).f0) != ((rd_T103 l1_5 x5_2).f0)) = true := bne_iff_ne.mpr c34
                    obtain rfl := Option.some.inj H
                    have hnb43 := NB244_245.out
                    have hnc43 := NB245_244.out
                    have hcz44_0 : wr.cell? ⟨gb244, 0, none⟩ = some (.bool a0_0) := (blk_cell BK244.out 0).trans rfl
                    have hcz44_1 : wr.cell? ⟨gb244, 1, none⟩ = some (.bool a0_1) := (blk_cell BK244.out 1).trans rfl
                    have hcz44_2 : wr.cell? ⟨gb244, 2, none⟩ = some (.bool a0_2) := (blk_cell BK244.out 2).trans rfl
                    have hcz44_3 : wr.cell? ⟨gb244, 3, none⟩ = some (.string a0_3) := (blk_cell BK244.out 3).trans rfl
                    have hcz44_4 : wr.cell? ⟨gb244, 4, none⟩ = some (.slice A0_4 l0_4.length c0_4) := (blk_cell BK244.out 4).trans rfl
                    have hcz44_5 : wr.cell? ⟨gb244, 5, none⟩ = some (.slice A0_5 l0_5.length c0_5) := (blk_cell BK244.out 5).trans rfl
                    have hfz44_0 := blk_frozen BK244.out 0
                    have hfz44_1 := blk_frozen BK244.out 1
                    have hfz44_2 := blk_frozen BK244.out 2
                    have hfz44_3 := blk_frozen BK244.out 3
                    have hfz44_4 := blk_frozen BK244.out 4
                    have hfz44_5 := blk_frozen BK244.out 5
                    have p247 : 0 ≤ (x5_2 : Int) := of_decide_eq_true (by first | (with_reducible assumption) | assumption)
                    have q247 : x5_2 < (l0_5.length : Int) := of_decide_eq_true (by first | (with_reducible assumption) | assumption)
                    obtain ⟨ad247, A247_1, c247_1, e247, hx247_0, hx247_1, hl247_1, hi247_1⟩ := at_T103 HR0_5.out x5_2 p247 q247
                    cases e247
                    replace hx247_0 := (HB.out.cell (World.block_lt_of_cell? w _ hx247_0)).trans hx247_0
                    replace hx247_1 := (HB.out.cell (World.block_lt_of_cell? w _ hx247_1)).trans hx247_1
                    have HR247_1 := Aside0.mk hi247_1
                    have HC247_1 := Aside0.mk hl247_1
                    clear hi247_1 hl247_1
                    replace p247 := eq_true p247
                    replace q247 := eq_true q247
                    have hcz45_0 : wr.cell? ⟨gb245, 0, none⟩ = some (.bool a1_0) := (blk_cell BK245.out 0).trans rfl
                    have hcz45_1 : wr.cell? ⟨gb245, 1, none⟩ = some (.bool a1_1) := (blk_cell BK245.out 1).trans rfl
                    have hcz45_2 : wr.cell? ⟨gb245, 2, none⟩ = some (.bool a1_2) := (blk_cell BK245.out 2).trans rfl
                    have hcz45_3 : wr.cell? ⟨gb245, 3, none⟩ = some (.string a1_3) := (blk_cell BK245.out 3).trans rfl
                    have hcz45_4 : wr.cell? ⟨gb245, 4, none⟩ = some (.slice A1_4 l1_4.length c1_4) := (blk_cell BK245.out 4).trans rfl
                    have hcz45_5 : wr.cell? ⟨gb245, 5, none⟩ = some (.slice A1_5 l1_5.length c1_5) := (blk_cell BK245.out 5).trans rfl
                    have hfz45_0 := blk_frozen BK245.out 0
                    have hfz45_1 := blk_frozen BK245.out 1
                    have hfz45_2 := blk_frozen BK245.out 2
                    have hfz45_3 := blk_frozen BK245.out 3
                    have hfz45_4 := blk_frozen BK245.out 4
                    have hfz45_5 := blk_frozen BK245.out 5
                    have p248 : 0 ≤ (x5_2 : Int) := of_decide_eq_true (by first | (with_reducible assumption) | assumption)
                    have q248 : x5_2 < (l1_5.length : Int) := of_decide_eq_true (by first | (with_reducible assumption) | assumption)
                    obtain ⟨ad248, A248_1, c248_1, e248, hx248_0, hx248_1, hl248_1, hi248_1⟩ := at_T103 HR1_5.out x5_2 p248 q248
                    cases e248
                    replace hx248_0 := (HB.out.cell (World.block_lt_of_cell? w _ hx248_0)).trans hx248_0
                    replace hx248_1 := (HB.out.cell (World.block_lt_of_cell? w _ hx248_1)).trans hx248_1
                    have HR248_1 := Aside0.mk hi248_1
                    have HC248_1 := Aside0.mk hl248_1
                    clear hi248_1 hl248_1
                    replace p248 := eq_true p248
                    replace q248 := eq_true q248
                    go_wp2
                    repeat (go_quiet (fail); try go_wp2)
                    go_ret
                    exact ⟨by first | rfl | (simp [errW_none, errW_some] <;> rfl) | (simp [*, errW_none, errW_some] <;> rfl), by repeat (first | (with_reducible first | exact HB.out | apply below_alloc | apply pw_below_drewN | apply below_drew1 | refine below_set ?_ GE244.out | refine below_set ?_ GE245.out) | exact HB.out)⟩
                · rw [if_neg c33] at H
                  exact absurd H (by simp)
              · rw [if_neg c32] at H
                exact absurd H (by simp)
            · rw [if_neg c31] at H
              have c31b0 : decide (x5_2 < (l0_5.length : Int)) = false := decide_eq_false c31
              clear c31
              obtain rfl := Option.some.inj H
              have hnb46 := NB244_245.out
              have hnc46 := NB245_244.out
              have hcz47_0 : wr.cell? ⟨gb244, 0, none⟩ = some (.bool a0_0) := (blk_cell BK244.out 0).trans rfl
              have hcz47_1 : wr.cell? ⟨gb244, 1, none⟩ = some (.bool a0_1) := (blk_cell BK244.out 1).trans rfl
              have hcz47_2 : wr.cell? ⟨gb244, 2, none⟩ = some (.bool a0_2) := (blk_cell BK244.out 2).trans rfl
              have hcz47_3 : wr.cell? ⟨gb244, 3, none⟩ = some (.string a0_3) := (blk_cell BK244.out 3).trans rfl
              have hcz47_4 : wr.cell? ⟨gb244, 4, none⟩ = some (.slice A0_4 l0_4.length c0_4) := (blk_cell BK244.out 4).trans rfl
              have hcz47_5 : wr.cell? ⟨gb244, 5, none⟩ = some (.slice A0_5 l0_5.length c0_5) := (blk_cell BK244.out 5).trans rfl
              have hfz47_0 := blk_frozen BK244.out 0
              have hfz47_1 := blk_frozen BK244.out 1
              have hfz47_2 := blk_frozen BK244.out 2
              have hfz47_3 := blk_frozen BK244.out 3
              have hfz47_4 := blk_frozen BK244.out 4
              have hfz47_5 := blk_frozen BK244.out 5
              go_wp2
              repeat (go_quiet (fail); try go_wp2)
              go_ret
              exact ⟨by first | rfl | (simp [errW_none, errW_some] <;> rfl) | (simp [*, errW_none, errW_some] <;> rfl), by repeat (first | (with_reducible first | exact HB.out | apply below_alloc | apply pw_below_drewN | apply below_drew1 | refine below_set ?_ GE244.out | refine below_set ?_ GE245.out) | exact HB.out)⟩
end Go.Proofs.YtiohiiekaofkbaaDoor.PNamesBack
