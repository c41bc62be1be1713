/- Texts of this claim, as far as they are used here: Q9, M2, M3, PNamesReadsx7. -/
import Derived.Test.YtiohiiekaofkbaaGreatDoorZ04
import Derived.Test.YtiohiiekaofkbaaGreatDoorZ10
import Derived.Test.YtiohiiekaofkbaaGreatDoorZ05
/- Printed for this claim. -/
namespace Go.Proofs.YtiohiiekaofkbaaGreatDoor.PNamesReads
open Go.RowKit Go.Proofs.YtiohiiekaofkbaaGreatDoorW.PrintWords Go.Proofs.YtiohiiekaofkbaaGreatDoorW.PrintLast Go.Proofs.YtiohiiekaofkbaaGreatDoorW.PrintMore
attribute [local go_sem] max2_int min2_int max_two min_two max_three min_three max_four min_four
set_option linter.unusedVariables false
set_option linter.unusedSimpArgs false
attribute [local go_sem high] eqA149
def names_Name_33.l0 : Nat → List (S149) → List (S149) → Int → Int → Option (Bool)
  | 0, _, _, _, _ => none
  | k + 1, x0, x1, x12, x13 => if x13 < x12 then (if 0 ≤ x13 then (if x13 < (x0.length : Int) then (if x13 < (x1.length : Int) then (if (!(((rd_T149 x0 x13).f0) == ((rd_T149 x1 x13).f0)) || (!((((rd_T149 x0 x13).f1).toList) == (((rd_T149 x1 x13).f1).toList)))) = true then (some false) else (names_Name_33.l0 k x0 x1 x12 (wrap64 (x13 + 1)))) else (none)) else (none)) else (none)) else (some true)
def names_Name_33.f (k : Nat) (l0 : List (S149)) (l1 : List (S149)) : Option (Bool) := if (l0.length : Int) = (l1.length : Int) then (names_Name_33.l0 k l0 l1 (l0.length : Int) 0) else (some false)
theorem names_Name_33.mono_l : ∀ k, (∀ y0 y1 y2 y3, LeO (names_Name_33.l0 k y0 y1 y2 y3) (names_Name_33.l0 (k + 1) y0 y1 y2 y3))
  | 0 => fun _ _ _ _ r h => by simp [names_Name_33.l0] at h
  | k + 1 => by
    have ih0 := names_Name_33.mono_l k
    · intro y0 y1 y2 y3
      unfold names_Name_33.l0
      repeat' first
      | (with_reducible exact ih0 _ _ _ _)
      | (with_reducible exact LeO.refl _)
      | (with_reducible exact LeO.none _)
      | (with_reducible refine LeO.ite ?_ ?_)
      | (with_reducible refine LeO.bind ?_ (fun _ => ?_))
      | exact ih0 _ _ _ _
      | exact LeO.none _
      | refine LeO.ite ?_ ?_
      | refine LeO.bind ?_ (fun _ => ?_)
theorem names_Name_33.mono : ∀ a0 a1 k, LeO (names_Name_33.f k a0 a1) (names_Name_33.f (k + 1) a0 a1) := by
  intro a0 a1 k
  have ih0 := names_Name_33.mono_l k
  unfold names_Name_33.f
  repeat' first
      | (with_reducible exact ih0 _ _ _ _)
      | (with_reducible exact LeO.refl _)
      | (with_reducible exact LeO.none _)
      | (with_reducible refine LeO.ite ?_ ?_)
      | (with_reducible refine LeO.bind ?_ (fun _ => ?_))
      | exact ih0 _ _ _ _
      | exact LeO.none _
      | refine LeO.ite ?_ ?_
      | refine LeO.bind ?_ (fun _ => ?_)
set_option maxHeartbeats 8000000 in
set_option maxRecDepth 100000 in
theorem names_Name_33.calls (k : Nat) (A0 : Option Addr) (c0 : Nat) (l0 : List (S149)) (A1 : Option Addr) (c1 : Nat) (l1 : List (S149)) (r : Bool) (w : World) (hr0 : Kd.C k149 w A0 l0.length l0) (hc0 : l0.length ≤ c0) (hr1 : Kd.C k149 w A1 l1.length l1) (hc1 : l1.length ≤ c1) (h : names_Name_33.f k l0 l1 = some r) :
    Calls Tryz.prog 33 #[.slice A0 l0.length c0, .slice A1 l1.length c1] w fun e w' => e = .returned (.bool r) ∧ Drawn0 w w' := by
  have hu149 := Tryz.underlying149
  have HR0 := Aside0.mk hr0
  have HC0 := Aside0.mk hc0
  clear hr0 hc0
  have HR1 := Aside0.mk hr1
  have HC1 := Aside0.mk hc1
  clear hr1 hc1
  have H : (if (l0.length : Int) = (l1.length : Int) then (names_Name_33.l0 k l0 l1 (l0.length : Int) 0) else (some false)) = some r := h
  clear h
  by_cases c3 : (l0.length : Int) = (l1.length : Int)
  · rw [if_pos c3] at H
    have c3b0 : ((l0.length : Int) == (l1.length : Int)) = true := beq_iff_eq.mpr c3
    have c3b1 : ((l0.length : Int) != (l1.length : Int)) = false := bne_eq_false_iff_eq.mpr c3
    have c3b2 : (l0.length == l1.length) = true := by first | simpa using c3 | (simp at c3 ⊢; omega)
    clear c3
    have H' := Aside0.mk H
    clear H
    go_enter Tryz.func33, Tryz.ntmps33
    go_wp2
    repeat (go_quiet (fail); try go_wp2)
    go_loopg [13] k (fun kq v13 w' => ∃ (x13_1 : Int), v13 = .int .i64 x13_1 ∧ Aside0 (names_Name_33.l0 kq l0 l1 (l0.length : Int) x13_1 = some r) ∧ Aside0 (kq ≤ k) ∧ Drawn0 w w')
    case atStart => exact ⟨(0), (by first | rfl | (simp; done) | (simp [*]; done)), H', ⟨Nat.le_refl _⟩, by repeat (first | exact Drawn0.refl _ | apply Drawn0.step)⟩
    case round =>
      clear H'
      try clear c1
      try clear p2
      try clear c3
      try clear c3b0
      try clear c3b1
      try clear c3b2
      obtain ⟨x13_1, rfl, HA, HK1, ⟨m1, rfl⟩⟩ := hrel
      cases gk with
      | zero => exact absurd HA.out (by simp [names_Name_33.l0])
      | succ k1 =>
        have H := HA.out
        clear HA
        simp only [names_Name_33.l0] at H
        by_cases c4 : x13_1 < (l0.length : Int)
        · rw [if_pos c4] at H
          have c4b0 : decide (x13_1 < (l0.length : Int)) = true := decide_eq_true c4
          clear c4
          by_cases c5 : 0 ≤ x13_1
          · rw [if_pos c5] at H
            have c5b0 : decide (0 ≤ x13_1) = true := decide_eq_true c5
            clear c5
            by_cases c6 : x13_1 < (l0.length : Int)
            · rw [if_pos c6] at H
              have c6b0 : decide (x13_1 < (l0.length : Int)) = true := decide_eq_true c6
              clear c6
              by_cases c7 : x13_1 < (l1.length : Int)
              · rw [if_pos c7] at H
                have c7b0 : decide (x13_1 < (l1.length : Int)) = true := decide_eq_true c7
                clear c7
                by_cases c8 : (!(((rd_T149 l0 x13_1).f0) == ((rd_T149 l1 x13_1).f0)) || (!((((rd_T149 l0 x13_1).f1).toList) == (((rd_T149 l1 x13_1).f1).toList)))) = true
                · rw [if_pos c8] at H
                  have c8b0 : (!(((rd_T149 l0 x13_1).f0) == ((rd_T149 l1 x13_1).f0)) || (!((((rd_T149 l0 x13_1).f1).toList) == (((rd_T149 l1 x13_1).f1).toList)))) = true := c8
                  clear c8
                  obtain rfl := Option.some.inj H
                  have p368 : 0 ≤ (x13_1 : Int) := of_decide_eq_true (by first | (with_reducible assumption) | assumption)
                  have q368 : x13_1 < (l0.length : Int) := of_decide_eq_true (by first | (with_reducible assumption) | assumption)
                  obtain ⟨ad368, e368, hx368_0, hx368_1⟩ := at_T149 HR0.out x13_1 p368 q368
                  cases e368
                  replace p368 := eq_true p368
                  replace q368 := eq_true q368
                  have p369 : 0 ≤ (x13_1 : Int) := of_decide_eq_true (by first | (with_reducible assumption) | assumption)
                  have q369 : x13_1 < (l1.length : Int) := of_decide_eq_true (by first | (with_reducible assumption) | assumption)
                  obtain ⟨ad369, e369, hx369_0, hx369_1⟩ := at_T149 HR1.out x13_1 p369 q369
                  cases e369
                  replace p369 := eq_true p369
                  replace q369 := eq_true q369
                  go_wp2
                  repeat (go_quiet (fail); try go_wp2)
                  go_ret
                  exact ⟨by first | rfl | (simp; done) | (simp [*]; done), by repeat (first | exact Drawn0.refl _ | apply Drawn0.step)⟩
                · rw [if_neg c8] at H
                  have c8b0 : (!(((rd_T149 l0 x13_1).f0) == ((rd_T149 l1 x13_1).f0)) || (!((((rd_T149 l0 x13_1).f1).toList) == (((rd_T149 l1 x13_1).f1).toList)))) = false := by simpa using c8
                  clear c8
                  have H' := Aside0.mk H
                  clear H
                  have p368 : 0 ≤ (x13_1 : Int) := of_decide_eq_true (by first | (with_reducible assumption) | assumption)
                  have q368 : x13_1 < (l0.length : Int) := of_decide_eq_true (by first | (with_reducible assumption) | assumption)
                  obtain ⟨ad368, e368, hx368_0, hx368_1⟩ := at_T149 HR0.out x13_1 p368 q368
                  cases e368
                  replace p368 := eq_true p368
                  replace q368 := eq_true q368
                  have p369 : 0 ≤ (x13_1 : Int) := of_decide_eq_true (by first | (with_reducible assumption) | assumption)
                  have q369 : x13_1 < (l1.length : Int) := of_decide_eq_true (by first | (with_reducible assumption) | assumption)
                  obtain ⟨ad369, e369, hx369_0, hx369_1⟩ := at_T149 HR1.out x13_1 p369 q369
                  cases e369
                  replace p369 := eq_true p369
                  replace q369 := eq_true q369
                  go_wp2
                  repeat (go_quiet (fail); try go_wp2)
                  go_roundg k1
                  case measure => have := HK1.out; omega
                  case rel => exact ⟨(wrap64 (x13_1 + 1)), (by first | rfl | (simp; done) | (simp [*]; done)), H', ⟨by have := HK1.out; omega⟩, by repeat (first | exact Drawn0.refl _ | apply Drawn0.step)⟩
              · rw [if_neg c7] at H
                exact absurd H (by simp)
            · rw [if_neg c6] at H
              exact absurd H (by simp)
          · rw [if_neg c5] at H
            exact absurd H (by simp)
        · rw [if_neg c4] at H
          have c4b0 : decide (x13_1 < (l0.length : Int)) = false := decide_eq_false c4
          clear c4
          obtain rfl := Option.some.inj H
          go_wp2
          repeat (go_quiet (fail); try go_wp2)
          go_ret
          exact ⟨by first | rfl | (simp; done) | (simp [*]; done), by repeat (first | exact Drawn0.refl _ | apply Drawn0.step)⟩
  · rw [if_neg c3] at H
    have c3b0 : ((l0.length : Int) == (l1.length : Int)) = false := beq_eq_false_iff_ne.mpr c3
    have c3b1 : ((l0.length : Int) != (l1.length : Int)) = true := bne_iff_ne.mpr c3
    have c3b2 : (l0.length == l1.length) = false := by first | simpa using c3 | (simp at c3 ⊢; omega)
    obtain rfl := Option.some.inj H
    go_enter Tryz.func33, Tryz.ntmps33
    go_wp2
    repeat (go_quiet (fail); try go_wp2)
    go_ret
    exact ⟨by first | rfl | (simp; done) | (simp [*]; done), by repeat (first | exact Drawn0.refl _ | apply Drawn0.step)⟩
def names_ofLocal.f (a0_0 : Int) (l0_1 : List (S149)) : Option (Int) := some a0_0
set_option maxHeartbeats 8000000 in
set_option maxRecDepth 100000 in
theorem names_ofLocal.calls (a0_0 : Int) (A0_1 : Option Addr) (c0_1 : Nat) (l0_1 : List (S149)) (r : Int) (w : World) (hr0_1 : Kd.C k149 w A0_1 l0_1.length l0_1) (hc0_1 : l0_1.length ≤ c0_1) (h : names_ofLocal.f a0_0 l0_1 = some r) :
    Calls Tryz.prog 79 #[.agg #[.int .u32 a0_0, .slice A0_1 l0_1.length c0_1]] w fun e w' => e = .returned (.int .u32 r) ∧ Below w.heap.size w w' := by
  have hu90 := Tryz.underlying90
  have HR0_1 := Aside0.mk hr0_1
  have HC0_1 := Aside0.mk hc0_1
  clear hr0_1 hc0_1
  have HB := Aside0.mk (Below.refl w.heap.size w)
  have H : (some a0_0) = some r := h
  clear h
  obtain rfl := Option.some.inj H
  go_enter Tryz.func79, Tryz.ntmps79
  go_wp2_with (first | ((with_reducible refine gate_dst (N := 1) rfl ?_); refine box_event ?hg (N := 1) ?hd (cs := #[.int .u32 a0_0, .slice A0_1 l0_1.length c0_1]) (t := 90) ?hr ?_; (case hd => rfl); (case hg => rfl); (case hr => first | (go_simp; done) | (go_simp; rfl)); intro gb373 hg w2 hbox hb; have n0_ := Aside0.mk (below_step (by repeat (first | (with_reducible first | exact HB.out | apply below_alloc | apply pw_below_drewN | apply below_drew1) | exact HB.out)) hb); have n1_ := Aside0.mk (hbox); have n2_ := Aside0.mk ((by rw [hg]; exact (below_size (by repeat (first | (with_reducible first | exact HB.out | apply below_alloc | apply pw_below_drewN | apply below_drew1) | exact HB.out))) : w.heap.size ≤ gb373)); have n3_ := Aside0.mk ((by rw [hg]; exact (below_size (by repeat (first | (with_reducible first | exact HB.out | apply below_alloc | apply pw_below_drewN | apply below_drew1) | exact HB.out))) : w.heap.size ≤ gb373)); clear HB; have HB := n0_; have BK373 := n1_; have GW373 := n2_; have GE373 := n3_; clear n0_ n1_ n2_ n3_; clear hb hbox hg; have hcz3_0 : w2.cell? ⟨gb373, 0, none⟩ = some (.int .u32 a0_0) := (blk_cell BK373.out 0).trans rfl; have hcz3_1 : w2.cell? ⟨gb373, 1, none⟩ = some (.slice A0_1 l0_1.length c0_1) := (blk_cell BK373.out 1).trans rfl; have hfz3_0 := blk_frozen BK373.out 0; have hfz3_1 := blk_frozen BK373.out 1))
  go_ret
  exact ⟨by first | rfl | (simp [errW_none, errW_some] <;> rfl) | (simp [*, errW_none, errW_some] <;> rfl), by repeat (first | (with_reducible first | exact HB.out | apply below_alloc | apply pw_below_drewN | apply below_drew1 | refine below_set ?_ GE373.out) | exact HB.out)⟩
def names_ofName.f (a0_0 : Int) (a0_1 : ByteArray) : Option (Int) := some a0_0
set_option maxHeartbeats 8000000 in
set_option maxRecDepth 100000 in
theorem names_ofName.calls (a0_0 : Int) (a0_1 : ByteArray) (r : Int) (w : World) (h : names_ofName.f a0_0 a0_1 = some r) :
    Calls Tryz.prog 94 #[.agg #[.int .u32 a0_0, .string a0_1]] w fun e w' => e = .returned (.int .u32 r) ∧ Below w.heap.size w w' := by
  have hu149 := Tryz.underlying149
  have HB := Aside0.mk (Below.refl w.heap.size w)
  have H : (some a0_0) = some r := h
  clear h
  obtain rfl := Option.some.inj H
  go_enter Tryz.func94, Tryz.ntmps94
  go_wp2_with (first | ((with_reducible refine gate_dst (N := 1) rfl ?_); refine box_event ?hg (N := 1) ?hd (cs := #[.int .u32 a0_0, .string a0_1]) (t := 149) ?hr ?_; (case hd => rfl); (case hg => rfl); (case hr => first | (go_simp; done) | (go_simp; rfl)); intro gb374 hg w2 hbox hb; have n0_ := Aside0.mk (below_step (by repeat (first | (with_reducible first | exact HB.out | apply below_alloc | apply pw_below_drewN | apply below_drew1) | exact HB.out)) hb); have n1_ := Aside0.mk (hbox); have n2_ := Aside0.mk ((by rw [hg]; exact (below_size (by repeat (first | (with_reducible first | exact HB.out | apply below_alloc | apply pw_below_drewN | apply below_drew1) | exact HB.out))) : w.heap.size ≤ gb374)); have n3_ := Aside0.mk ((by rw [hg]; exact (below_size (by repeat (first | (with_reducible first | exact HB.out | apply below_alloc | apply pw_below_drewN | apply below_drew1) | exact HB.out))) : w.heap.size ≤ gb374)); clear HB; have HB := n0_; have BK374 := n1_; have GW374 := n2_; have GE374 := n3_; clear n0_ n1_ n2_ n3_; clear hb hbox hg; have hcz3_0 : w2.cell? ⟨gb374, 0, none⟩ = some (.int .u32 a0_0) := (blk_cell BK374.out 0).trans rfl; have hcz3_1 : w2.cell? ⟨gb374, 1, none⟩ = some (.string a0_1) := (blk_cell BK374.out 1).trans rfl; have hfz3_0 := blk_frozen BK374.out 0; have hfz3_1 := blk_frozen BK374.out 1))
  go_ret
  exact ⟨by first | rfl | (simp [errW_none, errW_some] <;> rfl) | (simp [*, errW_none, errW_some] <;> rfl), by repeat (first | (with_reducible first | exact HB.out | apply below_alloc | apply pw_below_drewN | apply below_drew1 | refine below_set ?_ GE374.out) | exact HB.out)⟩
mutual
def utf_lead.j0 : Nat → Int → Bool → Option (Int × Int × Int × Bool)
  | 0, _, _ => none
  | k + 1, x0, x9 => if x9 = true then (some (1, 128, 191, true)) else (if x0 = 224 then (some (2, 160, 191, true)) else (if x0 = 237 then (some (2, 128, 159, true)) else (if x0 ≥ 225 then (utf_lead.j1 k x0 (decide (x0 ≤ 239))) else (utf_lead.j1 k x0 false))))
def utf_lead.j1 : Nat → Int → Bool → Option (Int × Int × Int × Bool)
  | 0, _, _ => none
  | k + 1, x0, x22 => if x22 = true then (some (2, 128, 191, true)) else (if x0 = 240 then (some (3, 144, 191, true)) else (if x0 ≥ 241 then (utf_lead.j2 k x0 (decide (x0 ≤ 243))) else (utf_lead.j2 k x0 false)))
def utf_lead.j2 : Nat → Int → Bool → Option (Int × Int × Int × Bool)
  | 0, _, _ => none
  | k + 1, x0, x32 => if x32 = true then (some (3, 128, 191, true)) else (if x0 = 244 then (some (3, 128, 143, true)) else (some (0, 0, 0, false)))
end
def utf_lead.f (k : Nat) (a0 : Int) : Option (Int × Int × Int × Bool) := if a0 < 128 then (some (0, 0, 0, true)) else (if a0 ≥ 194 then (utf_lead.j0 k a0 (decide (a0 ≤ 223))) else (utf_lead.j0 k a0 false))
theorem utf_lead.mono_l : ∀ k, (∀ y0 y1, LeO (utf_lead.j0 k y0 y1) (utf_lead.j0 (k + 1) y0 y1)) ∧ (∀ y0 y1, LeO (utf_lead.j1 k y0 y1) (utf_lead.j1 (k + 1) y0 y1)) ∧ (∀ y0 y1, LeO (utf_lead.j2 k y0 y1) (utf_lead.j2 (k + 1) y0 y1))
  | 0 => ⟨fun _ _ r h => by simp [utf_lead.j0] at h, fun _ _ r h => by simp [utf_lead.j1] at h, fun _ _ r h => by simp [utf_lead.j2] at h⟩
  | k + 1 => by
    obtain ⟨ih0, ih1, ih2⟩ := utf_lead.mono_l k
    refine ⟨?_, ?_, ?_⟩
    · intro y0 y1
      unfold utf_lead.j0
      repeat' first
      | (with_reducible exact ih0 _ _)
      | (with_reducible exact ih1 _ _)
      | (with_reducible exact ih2 _ _)
      | (with_reducible exact LeO.refl _)
      | (with_reducible exact LeO.none _)
      | (with_reducible refine LeO.ite ?_ ?_)
      | (with_reducible refine LeO.bind ?_ (fun _ => ?_))
      | exact ih0 _ _
      | exact ih1 _ _
      | exact ih2 _ _
      | exact LeO.none _
      | refine LeO.ite ?_ ?_
      | refine LeO.bind ?_ (fun _ => ?_)
    · intro y0 y1
      unfold utf_lead.j1
      repeat' first
      | (with_reducible exact ih0 _ _)
      | (with_reducible exact ih1 _ _)
      | (with_reducible exact ih2 _ _)
      | (with_reducible exact LeO.refl _)
      | (with_reducible exact LeO.none _)
      | (with_reducible refine LeO.ite ?_ ?_)
      | (with_reducible refine LeO.bind ?_ (fun _ => ?_))
      | exact ih0 _ _
      | exact ih1 _ _
      | exact ih2 _ _
      | exact LeO.none _
      | refine LeO.ite ?_ ?_
      | refine LeO.bind ?_ (fun _ => ?_)
    · intro y0 y1
      unfold utf_lead.j2
      repeat' first
      | (with_reducible exact ih0 _ _)
      | (with_reducible exact ih1 _ _)
      | (with_reducible exact ih2 _ _)
      | (with_reducible exact LeO.refl _)
      | (with_reducible exact LeO.none _)
      | (with_reducible refine LeO.ite ?_ ?_)
      | (with_reducible refine LeO.bind ?_ (fun _ => ?_))
      | exact ih0 _ _
      | exact ih1 _ _
      | exact ih2 _ _
      | exact LeO.none _
      | refine LeO.ite ?_ ?_
      | refine LeO.bind ?_ (fun _ => ?_)
theorem utf_lead.mono : ∀ a0 k, LeO (utf_lead.f k a0) (utf_lead.f (k + 1) a0) := by
  intro a0 k
  obtain ⟨ih0, ih1, ih2⟩ := utf_lead.mono_l k
  unfold utf_lead.f
  repeat' first
      | (with_reducible exact ih0 _ _)
      | (with_reducible exact ih1 _ _)
      | (with_reducible exact ih2 _ _)
      | (with_reducible exact LeO.refl _)
      | (with_reducible exact LeO.none _)
      | (with_reducible refine LeO.ite ?_ ?_)
      | (with_reducible refine LeO.bind ?_ (fun _ => ?_))
      | exact ih0 _ _
      | exact ih1 _ _
      | exact ih2 _ _
      | exact LeO.none _
      | refine LeO.ite ?_ ?_
      | refine LeO.bind ?_ (fun _ => ?_)
set_option maxHeartbeats 8000000 in
set_option maxRecDepth 100000 in
theorem utf_lead.calls (k : Nat) (a0 : Int) (r1 : Int) (r2 : Int) (r3 : Int) (r4 : Bool) (w : World) (h : utf_lead.f k a0 = some (r1, r2, r3, r4)) :
    Calls Tryz.prog 97 #[.int .u8 a0] w fun e w' => e = .returned (.tuple #[.int .i64 r1, .int .u8 r2, .int .u8 r3, .bool r4]) ∧ Drawn0 w w' := by
  have H : (if a0 < 128 then (some (0, 0, 0, true)) else (if a0 ≥ 194 then (utf_lead.j0 k a0 (decide (a0 ≤ 223))) else (utf_lead.j0 k a0 false))) = some (r1, r2, r3, r4) := h
  clear h
  by_cases c2 : a0 < 128
  · rw [if_pos c2] at H
    have c2b0 : decide (a0 < 128) = true := decide_eq_true c2
    clear c2
    simp only [Option.some.injEq, Prod.mk.injEq] at H
    obtain ⟨rfl, rfl, rfl, rfl⟩ := H
    go_enter Tryz.func97, Tryz.ntmps97
    go_wp2
    refine bodyPost_ret (results_list (rs := [.tmp 2, .tmp 3, .tmp 4, .tmp 5]) rfl (by simp) (.tmp (.tmp (.tmp (.tmp .nil))))) rfl ?_
    exact ⟨by first | rfl | (simp; done) | (simp [*]; done), by repeat (first | exact Drawn0.refl _ | apply Drawn0.step)⟩
  · rw [if_neg c2] at H
    have c2b0 : decide (a0 < 128) = false := decide_eq_false c2
    clear c2
    have HC3 := Aside0.mk H
    clear H
    go_enter Tryz.func97, Tryz.ntmps97
    go_upto_region 3 with (fail)
    go_cut [9] (fun v9 wc => ∃ (kq : Nat) (x9_2 : Bool), v9 = .bool x9_2 ∧ Aside0 (utf_lead.j0 kq a0 x9_2 = some (r1, r2, r3, r4)) ∧ Aside0 (kq ≤ k) ∧ Drawn0 w wc)
    case first =>
      have H := HC3.out
      clear HC3
      by_cases c4 : a0 ≥ 194
      · rw [if_pos c4] at H
        have c4b0 : decide (194 ≤ a0) = true := decide_eq_true c4
        clear c4
        (first | rw [c4b0] | (simp only [i64_w, i32_w]; rw [c4b0]) | skip)
        have H' := Aside0.mk H
        clear H
        go_wp2
        go_meet
        case rel => exact ⟨_, (decide (a0 ≤ 223)), (by first | rfl | (simp; done) | (simp [*]; done)), H', ⟨by first | omega | exact Nat.le_refl _⟩, by repeat (first | exact Drawn0.refl _ | apply Drawn0.step)⟩
      · rw [if_neg c4] at H
        have c4b0 : decide (194 ≤ a0) = false := decide_eq_false c4
        clear c4
        (first | rw [c4b0] | (simp only [i64_w, i32_w]; rw [c4b0]) | skip)
        have H' := Aside0.mk H
        clear H
        go_wp2
        go_meet
        case rel => exact ⟨_, (false), (by first | rfl | (simp; done) | (simp [*]; done)), H', ⟨by first | omega | exact Nat.le_refl _⟩, by repeat (first | exact Drawn0.refl _ | apply Drawn0.step)⟩
    case rest =>
      clear HC3
      try clear c2
      try clear c2b0
      try clear p2
      try clear c4
      try clear c4b0
      obtain ⟨kq, x9_2, rfl, HA, HJ2, ⟨mc2, rfl⟩⟩ := hcut
      cases kq with
      | zero => exact absurd HA.out (by simp [utf_lead.j0])
      | succ kj2 =>
        have H := HA.out
        clear HA
        simp only [utf_lead.j0] at H
        by_cases c5 : x9_2 = true
        · subst c5
          have H1 : (some (1, 128, 191, true)) = some (r1, r2, r3, r4) := by rw [if_pos rfl] at H; exact H
          clear H
          have H := H1
          clear H1
          simp only [Option.some.injEq, Prod.mk.injEq] at H
          obtain ⟨rfl, rfl, rfl, rfl⟩ := H
          go_wp2
          refine bodyPost_ret (results_list (rs := [.tmp 2, .tmp 3, .tmp 4, .tmp 5]) rfl (by simp) (.tmp (.tmp (.tmp (.tmp .nil))))) rfl ?_
          exact ⟨by first | rfl | (simp; done) | (simp [*]; done), by repeat (first | exact Drawn0.refl _ | apply Drawn0.step)⟩
        · replace c5 := Bool.eq_false_iff.mpr c5
          subst c5
          have H1 : (if a0 = 224 then (some (2, 160, 191, true)) else (if a0 = 237 then (some (2, 128, 159, true)) else (if a0 ≥ 225 then (utf_lead.j1 kj2 a0 (decide (a0 ≤ 239))) else (utf_lead.j1 kj2 a0 false)))) = some (r1, r2, r3, r4) := by rw [if_neg (show ¬ (false = true) by decide)] at H; exact H
          clear H
          have H := H1
          clear H1
          by_cases c6 : a0 = 224
          · rw [if_pos c6] at H
            have c6b0 : (a0 == 224) = true := beq_iff_eq.mpr c6
            have c6b1 : (a0 != 224) = false := bne_eq_false_iff_eq.mpr c6
            clear c6
            simp only [Option.some.injEq, Prod.mk.injEq] at H
            obtain ⟨rfl, rfl, rfl, rfl⟩ := H
            go_wp2
            refine bodyPost_ret (results_list (rs := [.tmp 2, .tmp 3, .tmp 4, .tmp 5]) rfl (by simp) (.tmp (.tmp (.tmp (.tmp .nil))))) rfl ?_
            exact ⟨by first | rfl | (simp; done) | (simp [*]; done), by repeat (first | exact Drawn0.refl _ | apply Drawn0.step)⟩
          · rw [if_neg c6] at H
            have c6b0 : (a0 == 224) = false := beq_eq_false_iff_ne.mpr c6
            have c6b1 : (a0 != 224) = true := bne_iff_ne.mpr c6
            by_cases c7 : a0 = 237
            · rw [if_pos c7] at H
              have c7b0 : (a0 == 237) = true := beq_iff_eq.mpr c7
              have c7b1 : (a0 != 237) = false := bne_eq_false_iff_eq.mpr c7
              clear c7
              simp only [Option.some.injEq, Prod.mk.injEq] at H
              obtain ⟨rfl, rfl, rfl, rfl⟩ := H
              go_wp2
              refine bodyPost_ret (results_list (rs := [.tmp 2, .tmp 3, .tmp 4, .tmp 5]) rfl (by simp) (.tmp (.tmp (.tmp (.tmp .nil))))) rfl ?_
              exact ⟨by first | rfl | (simp; done) | (simp [*]; done), by repeat (first | exact Drawn0.refl _ | apply Drawn0.step)⟩
            · rw [if_neg c7] at H
              have c7b0 : (a0 == 237) = false := beq_eq_false_iff_ne.mpr c7
              have c7b1 : (a0 != 237) = true := bne_iff_ne.mpr c7
              have HC8 := Aside0.mk H
              clear H
              go_upto_region 9 with (fail)
              go_cut [22] (fun v22 wc => ∃ (kq : Nat) (x22_7 : Bool), v22 = .bool x22_7 ∧ Aside0 (utf_lead.j1 kq a0 x22_7 = some (r1, r2, r3, r4)) ∧ Aside0 (kq ≤ kj2) ∧ Drawn0 w wc)
              case first =>
                have H := HC8.out
                clear HC8
                by_cases c9 : a0 ≥ 225
                · rw [if_pos c9] at H
                  have c9b0 : decide (225 ≤ a0) = true := decide_eq_true c9
                  clear c9
                  (first | rw [c9b0] | (simp only [i64_w, i32_w]; rw [c9b0]) | skip)
                  have H' := Aside0.mk H
                  clear H
                  go_wp2
                  go_meet
                  case rel => exact ⟨_, (decide (a0 ≤ 239)), (by first | rfl | (simp; done) | (simp [*]; done)), H', ⟨by have := HJ2.out; first | omega | exact Nat.le_refl _⟩, by repeat (first | exact Drawn0.refl _ | apply Drawn0.step)⟩
                · rw [if_neg c9] at H
                  have c9b0 : decide (225 ≤ a0) = false := decide_eq_false c9
                  clear c9
                  (first | rw [c9b0] | (simp only [i64_w, i32_w]; rw [c9b0]) | skip)
                  have H' := Aside0.mk H
                  clear H
                  go_wp2
                  go_meet
                  case rel => exact ⟨_, (false), (by first | rfl | (simp; done) | (simp [*]; done)), H', ⟨by have := HJ2.out; first | omega | exact Nat.le_refl _⟩, by repeat (first | exact Drawn0.refl _ | apply Drawn0.step)⟩
              case rest =>
                clear HC8
                try clear c2
                try clear c2b0
                try clear p2
                try clear c4
                try clear c4b0
                try clear c5
                try clear c6
                try clear c6b0
                try clear c6b1
                try clear c7
                try clear c7b0
                try clear c7b1
                try clear c9
                try clear c9b0
                try clear p2
                obtain ⟨kq, x22_7, rfl, HA, HJ7, ⟨mc7, rfl⟩⟩ := hcut
                cases kq with
                | zero => exact absurd HA.out (by simp [utf_lead.j1])
                | succ kj7 =>
                  have H := HA.out
                  clear HA
                  simp only [utf_lead.j1] at H
                  by_cases c10 : x22_7 = true
                  · subst c10
                    have H1 : (some (2, 128, 191, true)) = some (r1, r2, r3, r4) := by rw [if_pos rfl] at H; exact H
                    clear H
                    have H := H1
                    clear H1
                    simp only [Option.some.injEq, Prod.mk.injEq] at H
                    obtain ⟨rfl, rfl, rfl, rfl⟩ := H
                    go_wp2
                    refine bodyPost_ret (results_list (rs := [.tmp 2, .tmp 3, .tmp 4, .tmp 5]) rfl (by simp) (.tmp (.tmp (.tmp (.tmp .nil))))) rfl ?_
                    exact ⟨by first | rfl | (simp; done) | (simp [*]; done), by repeat (first | exact Drawn0.refl _ | apply Drawn0.step)⟩
                  · replace c10 := Bool.eq_false_iff.mpr c10
                    subst c10
                    have H1 : (if a0 = 240 then (some (3, 144, 191, true)) else (if a0 ≥ 241 then (utf_lead.j2 kj7 a0 (decide (a0 ≤ 243))) else (utf_lead.j2 kj7 a0 false))) = some (r1, r2, r3, r4) := by rw [if_neg (show ¬ (false = true) by decide)] at H; exact H
                    clear H
                    have H := H1
                    clear H1
                    by_cases c11 : a0 = 240
                    · rw [if_pos c11] at H
                      have c11b0 : (a0 == 240) = true := beq_iff_eq.mpr c11
                      have c11b1 : (a0 != 240) = false := bne_eq_false_iff_eq.mpr c11
                      clear c11
                      simp only [Option.some.injEq, Prod.mk.injEq] at H
                      obtain ⟨rfl, rfl, rfl, rfl⟩ := H
                      go_wp2
                      refine bodyPost_ret (results_list (rs := [.tmp 2, .tmp 3, .tmp 4, .tmp 5]) rfl (by simp) (.tmp (.tmp (.tmp (.tmp .nil))))) rfl ?_
                      exact ⟨by first | rfl | (simp; done) | (simp [*]; done), by repeat (first | exact Drawn0.refl _ | apply Drawn0.step)⟩
                    · rw [if_neg c11] at H
                      have c11b0 : (a0 == 240) = false := beq_eq_false_iff_ne.mpr c11
                      have c11b1 : (a0 != 240) = true := bne_iff_ne.mpr c11
                      have HC12 := Aside0.mk H
                      clear H
                      go_upto_region 13 with (fail)
                      go_cut [32] (fun v32 wc => ∃ (kq : Nat) (x32_11 : Bool), v32 = .bool x32_11 ∧ Aside0 (utf_lead.j2 kq a0 x32_11 = some (r1, r2, r3, r4)) ∧ Aside0 (kq ≤ kj7) ∧ Drawn0 w wc)
                      case first =>
                        have H := HC12.out
                        clear HC12
                        by_cases c13 : a0 ≥ 241
                        · rw [if_pos c13] at H
                          have c13b0 : decide (241 ≤ a0) = true := decide_eq_true c13
                          clear c13
                          (first | rw [c13b0] | (simp only [i64_w, i32_w]; rw [c13b0]) | skip)
                          have H' := Aside0.mk H
                          clear H
                          go_wp2
                          go_meet
                          case rel => exact ⟨_, (decide (a0 ≤ 243)), (by first | rfl | (simp; done) | (simp [*]; done)), H', ⟨by have := HJ2.out; have := HJ7.out; first | omega | exact Nat.le_refl _⟩, by repeat (first | exact Drawn0.refl _ | apply Drawn0.step)⟩
                        · rw [if_neg c13] at H
                          have c13b0 : decide (241 ≤ a0) = false := decide_eq_false c13
                          clear c13
                          (first | rw [c13b0] | (simp only [i64_w, i32_w]; rw [c13b0]) | skip)
                          have H' := Aside0.mk H
                          clear H
                          go_wp2
                          go_meet
                          case rel => exact ⟨_, (false), (by first | rfl | (simp; done) | (simp [*]; done)), H', ⟨by have := HJ2.out; have := HJ7.out; first | omega | exact Nat.le_refl _⟩, by repeat (first | exact Drawn0.refl _ | apply Drawn0.step)⟩
                      case rest =>
                        clear HC12
                        try clear c1
                        try clear c2
                        try clear c2b0
                        try clear p2
                        try clear c4
                        try clear c4b0
                        try clear c5
                        try clear c6
                        try clear c6b0
                        try clear c6b1
                        try clear c7
                        try clear c7b0
                        try clear c7b1
                        try clear c9
                        try clear c9b0
                        try clear c10
                        try clear c11
                        try clear c11b0
                        try clear c11b1
                        try clear c13
                        try clear c13b0
                        try clear p2
                        obtain ⟨kq, x32_11, rfl, HA, HJ11, ⟨mc11, rfl⟩⟩ := hcut
                        cases kq with
                        | zero => exact absurd HA.out (by simp [utf_lead.j2])
                        | succ kj11 =>
                          have H := HA.out
                          clear HA
                          simp only [utf_lead.j2] at H
                          by_cases c14 : x32_11 = true
                          · subst c14
                            have H1 : (some (3, 128, 191, true)) = some (r1, r2, r3, r4) := by rw [if_pos rfl] at H; exact H
                            clear H
                            have H := H1
                            clear H1
                            simp only [Option.some.injEq, Prod.mk.injEq] at H
                            obtain ⟨rfl, rfl, rfl, rfl⟩ := H
                            go_wp2
                            refine bodyPost_ret (results_list (rs := [.tmp 2, .tmp 3, .tmp 4, .tmp 5]) rfl (by simp) (.tmp (.tmp (.tmp (.tmp .nil))))) rfl ?_
                            exact ⟨by first | rfl | (simp; done) | (simp [*]; done), by repeat (first | exact Drawn0.refl _ | apply Drawn0.step)⟩
                          · replace c14 := Bool.eq_false_iff.mpr c14
                            subst c14
                            have H1 : (if a0 = 244 then (some (3, 128, 143, true)) else (some (0, 0, 0, false))) = some (r1, r2, r3, r4) := by rw [if_neg (show ¬ (false = true) by decide)] at H; exact H
                            clear H
                            have H := H1
                            clear H1
                            by_cases c15 : a0 = 244
                            · rw [if_pos c15] at H
                              have c15b0 : (a0 == 244) = true := beq_iff_eq.mpr c15
                              have c15b1 : (a0 != 244) = false := bne_eq_false_iff_eq.mpr c15
                              clear c15
                              simp only [Option.some.injEq, Prod.mk.injEq] at H
                              obtain ⟨rfl, rfl, rfl, rfl⟩ := H
                              go_wp2
                              refine bodyPost_ret (results_list (rs := [.tmp 2, .tmp 3, .tmp 4, .tmp 5]) rfl (by simp) (.tmp (.tmp (.tmp (.tmp .nil))))) rfl ?_
                              exact ⟨by first | rfl | (simp; done) | (simp [*]; done), by repeat (first | exact Drawn0.refl _ | apply Drawn0.step)⟩
                            · rw [if_neg c15] at H
                              have c15b0 : (a0 == 244) = false := beq_eq_false_iff_ne.mpr c15
                              have c15b1 : (a0 != 244) = true := bne_iff_ne.mpr c15
                              simp only [Option.some.injEq, Prod.mk.injEq] at H
                              obtain ⟨rfl, rfl, rfl, rfl⟩ := H
                              go_wp2
                              refine bodyPost_ret (results_list (rs := [.tmp 2, .tmp 3, .tmp 4, .tmp 5]) rfl (by simp) (.tmp (.tmp (.tmp (.tmp .nil))))) rfl ?_
                              exact ⟨by first | rfl | (simp; done) | (simp [*]; done), by repeat (first | exact Drawn0.refl _ | apply Drawn0.step)⟩
def leb_PutU.l0 : Nat → List Int → Int → Option (List Int)
  | 0, _, _ => none
  | k + 1, x0, x1 => if x1 ≥ 128 then (if x0.length < 140737488355328 then (leb_PutU.l0 k (x0 ++ [Go.bits .or .u8 ((x1) % 256) 128]) (x1 / 128)) else (none)) else (if x0.length < 140737488355328 then (some (x0 ++ [(x1) % 256])) else (none))
def leb_PutU.f (k : Nat) (l0 : List Int) (a1 : Int) : Option (List Int) := leb_PutU.l0 k l0 a1
theorem leb_PutU.mono_l : ∀ k, (∀ y0 y1, LeO (leb_PutU.l0 k y0 y1) (leb_PutU.l0 (k + 1) y0 y1))
  | 0 => fun _ _ r h => by simp [leb_PutU.l0] at h
  | k + 1 => by
    have ih0 := leb_PutU.mono_l k
    · intro y0 y1
      unfold leb_PutU.l0
      repeat' first
      | (with_reducible exact ih0 _ _)
      | (with_reducible exact LeO.refl _)
      | (with_reducible exact LeO.none _)
      | (with_reducible refine LeO.ite ?_ ?_)
      | (with_reducible refine LeO.bind ?_ (fun _ => ?_))
      | exact ih0 _ _
      | exact LeO.none _
      | refine LeO.ite ?_ ?_
      | refine LeO.bind ?_ (fun _ => ?_)
theorem leb_PutU.mono : ∀ a0 a1 k, LeO (leb_PutU.f k a0 a1) (leb_PutU.f (k + 1) a0 a1) := by
  intro a0 a1 k
  have ih0 := leb_PutU.mono_l k
  unfold leb_PutU.f
  repeat' first
      | (with_reducible exact ih0 _ _)
      | (with_reducible exact LeO.refl _)
      | (with_reducible exact LeO.none _)
      | (with_reducible refine LeO.ite ?_ ?_)
      | (with_reducible refine LeO.bind ?_ (fun _ => ?_))
      | exact ih0 _ _
      | exact LeO.none _
      | refine LeO.ite ?_ ?_
      | refine LeO.bind ?_ (fun _ => ?_)
set_option maxHeartbeats 8000000 in
set_option maxRecDepth 100000 in
theorem leb_PutU.calls (k : Nat) (P0_ : Nat → Prop) (u9000_ : Value) (l0 : List Int) (a1 : Int) (r : List Int) (w0 w : World) (hB : Below w0.heap.size w0 w) (ho0 : Kd.R (Kd.int .u8) 5 w w0.heap.size P0_ u9000_ l0) (h : leb_PutU.f k l0 a1 = some r) :
    Calls Tryz.prog 56 #[u9000_, .int .u64 a1] w fun e w' => ∃ v0_ : Value, e = .returned (v0_) ∧ Kd.R (Kd.int .u8) 5 w' w0.heap.size (fun k_ => (P0_ k_ ∨ w.heap.size ≤ k_)) v0_ r ∧ Below w0.heap.size w0 w' ∧ Kept w w' (fun k_ => P0_ k_) := by
  have HO0 := Aside0.mk (show Kd.R (Kd.int .u8) 5 w w0.heap.size (fun k_ => (P0_ k_ ∨ w.heap.size ≤ k_)) u9000_ l0 from Kd.R_mono ho0 (fun k_ hk => (.inl hk)))
  have HK := Aside0.mk (Kept.refl w (fun k_ => P0_ k_))
  have HW0 := Aside0.mk hB.size
  have HB := Aside0.mk hB
  clear hB
  have H : (leb_PutU.l0 k l0 a1) = some r := h
  clear h
  have H' := Aside0.mk H
  clear H
  go_enter Tryz.func56, Tryz.ntmps56
  go_wp2
  go_loopg [0, 1] k (fun kq v0 v1 w' => ∃ (x0_1 : List Int) (x1_1 : Int), v1 = .int .u64 x1_1 ∧ Aside0 (leb_PutU.l0 kq x0_1 x1_1 = some r) ∧ Aside0 (kq ≤ k) ∧ Aside0 (Kd.R (Kd.int .u8) 5 w' w0.heap.size (fun k_ => (P0_ k_ ∨ w.heap.size ≤ k_)) v0 x0_1) ∧ Aside0 (Kept w w' (fun k_ => P0_ k_)) ∧ Aside0 (Below w0.heap.size w0 w'))
  case atStart => exact ⟨(l0), (a1), (by first | rfl | (simp; done) | (simp [*]; done)), H', ⟨Nat.le_refl _⟩, ⟨by (with_reducible repeat (first | apply Kd.R_alloc | apply Kd.R_drewN | apply Kd.R_drew)); exact HO0.out⟩, ⟨by repeat (first | (with_reducible first | exact HK.out | apply Kept.alloc | apply Kept.drewN | apply Kept.drew) | exact HK.out)⟩, ⟨by repeat (first | (with_reducible first | exact HB.out | apply below_alloc | apply pw_below_drewN | apply below_drew1) | exact HB.out)⟩⟩
  case round =>
    clear H'
    try clear p2
    obtain ⟨x0_1, x1_1, rfl, HA, HK1, HO_0, HK, HB⟩ := hrel
    cases gk with
    | zero => exact absurd HA.out (by simp [leb_PutU.l0])
    | succ k1 =>
      have H := HA.out
      clear HA
      simp only [leb_PutU.l0] at H
      by_cases c3 : x1_1 ≥ 128
      · rw [if_pos c3] at H
        have c3b0 : decide (128 ≤ x1_1) = true := decide_eq_true c3
        clear c3
        by_cases c4 : x0_1.length < 140737488355328
        · rw [if_pos c4] at H
          have LMc4 := Aside0.mk c4
          clear c4
          obtain ⟨y380, hy380⟩ : ∃ y_ : List Int, y_ = (x0_1 ++ [Go.bits .or .u8 ((x1_1) % 256) 128]) := ⟨_, rfl⟩
          replace H : (leb_PutU.l0 k1 y380 (x1_1 / 128)) = some r := by first | (rw [hy380]; with_reducible exact H) | (have H2_ := (Option.bind_some _ _).symm.trans H; rw [hy380]; with_reducible exact H2_) | (have H2_ := (Option.bind_some _ _).symm.trans H; with_reducible exact H2_) | with_reducible exact H | (rw [hy380]; exact H) | exact H
          have Ny380 := Aside0.mk hy380
          clear hy380
          have H' := Aside0.mk H
          clear H
          go_wp2_with (first | ((with_reducible refine gate_builtin (b := .append) (xs := #[.tmp 7, .tmp 11]) rfl ?_); at_builtin; refine Kd.R_append (Kd.int .u8) (w0 := w0) w0.heap.size rfl (.tmp 7) (.tmp 11) 72 5 (.int .u8 0) 1 rfl Tryz.underlying72 info5 rfl (by decide) (by omega) u0 x0_1 (Go.bits .or .u8 ((x1_1) % 256) 128) [.int .u8 (Go.bits .or .u8 ((x1_1) % 256) 128)] (fun k_ => (P0_ k_ ∨ w.heap.size ≤ k_)) (fun _ => False) rfl rfl ?aP (fun _ hk => hk.elim) ?aF ?aO ?aB ?aS ?aL ?_; (case aP => exact rfl); (case aB => exact (by repeat (first | (with_reducible first | exact HB.out | apply below_alloc | apply pw_below_drewN | apply below_drew1) | exact HB.out))); (case aF => exact (fun k_ hk => (.inr (Nat.le_trans (by first | exact HK.out.1 | exact (show Kept w _ (fun k_ => P0_ k_) from by repeat (first | (with_reducible first | exact HK.out | apply Kept.alloc | apply Kept.drewN | apply Kept.drew) | exact HK.out)).1) hk)))); (case aO => exact (by (with_reducible repeat (first | apply Kd.R_alloc | apply Kd.R_drewN | apply Kd.R_drew)); exact HO_0.out)); (case aS => exact (below_size (by repeat (first | (with_reducible first | exact HB.out | apply below_alloc | apply pw_below_drewN | apply below_drew1) | exact HB.out)))); (case aL => have := LMc4.out; omega); intro v381 w5 ho hb hg hat; rw [← Ny380.out] at ho; have n0_ := Aside0.mk (hb); have n1_ := Aside0.mk (Kept.of_grown (S := (fun k_ => P0_ k_)) hg (by repeat (first | (with_reducible first | exact HK.out | apply Kept.alloc | apply Kept.drewN | apply Kept.drew) | exact HK.out)) (fun k_ e_ => (HO_0.out.1 k_ e_))); have n2_ := Aside0.mk (ho); clear HB; clear HK; clear HO_0; have HB := n0_; have HK := n1_; have HO382 := n2_; clear n0_ n1_ n2_; clear ho hb hg hat))
          go_roundg k1
          case measure => have := HK1.out; omega
          case rel => exact ⟨(y380), (x1_1 / 128), (by first | rfl | (simp; done) | (simp [*]; done)), H', ⟨by have := HK1.out; omega⟩, ⟨by (with_reducible repeat (first | apply Kd.R_alloc | apply Kd.R_drewN | apply Kd.R_drew)); exact HO382.out⟩, ⟨by repeat (first | (with_reducible first | exact HK.out | apply Kept.alloc | apply Kept.drewN | apply Kept.drew) | exact HK.out)⟩, ⟨by repeat (first | (with_reducible first | exact HB.out | apply below_alloc | apply pw_below_drewN | apply below_drew1) | exact HB.out)⟩⟩
        · rw [if_neg c4] at H
          exact absurd H (by simp)
      · rw [if_neg c3] at H
        have c3b0 : decide (128 ≤ x1_1) = false := decide_eq_false c3
        clear c3
        by_cases c6 : x0_1.length < 140737488355328
        · rw [if_pos c6] at H
          have LMc6 := Aside0.mk c6
          clear c6
          obtain ⟨y383, hy383⟩ : ∃ y_ : List Int, y_ = (x0_1 ++ [(x1_1) % 256]) := ⟨_, rfl⟩
          replace H : (some y383) = some r := by first | (rw [hy383]; with_reducible exact H) | (have H2_ := (Option.bind_some _ _).symm.trans H; rw [hy383]; with_reducible exact H2_) | (have H2_ := (Option.bind_some _ _).symm.trans H; with_reducible exact H2_) | with_reducible exact H | (rw [hy383]; exact H) | exact H
          have Ny383 := Aside0.mk hy383
          clear hy383
          obtain rfl := Option.some.inj H
          go_wp2_with (first | ((with_reducible refine gate_builtin (b := .append) (xs := #[.tmp 15, .tmp 18]) rfl ?_); at_builtin; refine Kd.R_append (Kd.int .u8) (w0 := w0) w0.heap.size rfl (.tmp 15) (.tmp 18) 72 5 (.int .u8 0) 1 rfl Tryz.underlying72 info5 rfl (by decide) (by omega) u0 x0_1 ((x1_1) % 256) [.int .u8 ((x1_1) % 256)] (fun k_ => (P0_ k_ ∨ w.heap.size ≤ k_)) (fun _ => False) rfl rfl ?aP (fun _ hk => hk.elim) ?aF ?aO ?aB ?aS ?aL ?_; (case aP => exact rfl); (case aB => exact (by repeat (first | (with_reducible first | exact HB.out | apply below_alloc | apply pw_below_drewN | apply below_drew1) | exact HB.out))); (case aF => exact (fun k_ hk => (.inr (Nat.le_trans (by first | exact HK.out.1 | exact (show Kept w _ (fun k_ => P0_ k_) from by repeat (first | (with_reducible first | exact HK.out | apply Kept.alloc | apply Kept.drewN | apply Kept.drew) | exact HK.out)).1) hk)))); (case aO => exact (by (with_reducible repeat (first | apply Kd.R_alloc | apply Kd.R_drewN | apply Kd.R_drew)); exact HO_0.out)); (case aS => exact (below_size (by repeat (first | (with_reducible first | exact HB.out | apply below_alloc | apply pw_below_drewN | apply below_drew1) | exact HB.out)))); (case aL => have := LMc6.out; omega); intro v384 w7 ho hb hg hat; rw [← Ny383.out] at ho; have n0_ := Aside0.mk (hb); have n1_ := Aside0.mk (Kept.of_grown (S := (fun k_ => P0_ k_)) hg (by repeat (first | (with_reducible first | exact HK.out | apply Kept.alloc | apply Kept.drewN | apply Kept.drew) | exact HK.out)) (fun k_ e_ => (HO_0.out.1 k_ e_))); have n2_ := Aside0.mk (ho); clear HB; clear HK; clear HO_0; have HB := n0_; have HK := n1_; have HO385 := n2_; clear n0_ n1_ n2_; clear ho hb hg hat))
          go_ret
          exact ⟨_, by first | rfl | (simp [errW_none, errW_some] <;> rfl) | (simp [*, errW_none, errW_some] <;> rfl), by (with_reducible repeat (first | apply Kd.R_alloc | apply Kd.R_drewN | apply Kd.R_drew)); exact HO385.out, by repeat (first | (with_reducible first | exact HB.out | apply below_alloc | apply pw_below_drewN | apply below_drew1) | exact HB.out), by repeat (first | (with_reducible first | exact HK.out | apply Kept.alloc | apply Kept.drewN | apply Kept.drew) | exact HK.out)⟩
        · rw [if_neg c6] at H
          exact absurd H (by simp)
def entry_PutText.f (k : Nat) (l0 : List Int) (a1 : ByteArray) : Option (List Int) := (leb_PutU.f k l0 (IntKind.u64.wrap ((a1.size : Int)))).bind fun t386 => (if t386.length + a1.size < 140737488355328 then (some (t386 ++ bytesOf a1)) else (none))
theorem entry_PutText.mono : ∀ a0 a1 k, LeO (entry_PutText.f k a0 a1) (entry_PutText.f (k + 1) a0 a1) := by
  intro a0 a1 k
  unfold entry_PutText.f
  repeat' first
      | (with_reducible exact leb_PutU.mono _ _ _)
      | (with_reducible exact LeO.refl _)
      | (with_reducible exact LeO.none _)
      | (with_reducible refine LeO.ite ?_ ?_)
      | (with_reducible refine LeO.bind ?_ (fun _ => ?_))
      | exact leb_PutU.mono _ _ _
      | exact LeO.none _
      | refine LeO.ite ?_ ?_
      | refine LeO.bind ?_ (fun _ => ?_)
set_option maxHeartbeats 8000000 in
set_option maxRecDepth 100000 in
theorem entry_PutText.calls (k : Nat) (P0_ : Nat → Prop) (u9000_ : Value) (l0 : List Int) (a1 : ByteArray) (r : List Int) (w0 w : World) (hB : Below w0.heap.size w0 w) (ho0 : Kd.R (Kd.int .u8) 5 w w0.heap.size P0_ u9000_ l0) (h : entry_PutText.f k l0 a1 = some r) :
    Calls Tryz.prog 58 #[u9000_, .string a1] w fun e w' => ∃ v0_ : Value, e = .returned (v0_) ∧ Kd.R (Kd.int .u8) 5 w' w0.heap.size (fun k_ => (P0_ k_ ∨ w.heap.size ≤ k_)) v0_ r ∧ Below w0.heap.size w0 w' ∧ Kept w w' (fun k_ => P0_ k_) := by
  have HO0 := Aside0.mk (show Kd.R (Kd.int .u8) 5 w w0.heap.size (fun k_ => (P0_ k_ ∨ w.heap.size ≤ k_)) u9000_ l0 from Kd.R_mono ho0 (fun k_ hk => (.inl hk)))
  have HK := Aside0.mk (Kept.refl w (fun k_ => P0_ k_))
  have HW0 := Aside0.mk hB.size
  have HB := Aside0.mk hB
  clear hB
  have H : ((leb_PutU.f k l0 (IntKind.u64.wrap ((a1.size : Int)))).bind fun t386 => (if t386.length + a1.size < 140737488355328 then (some (t386 ++ bytesOf a1)) else (none))) = some r := h
  clear h
  replace H := Option.bind_eq_some_iff.mp H
  obtain ⟨t386, A30, H⟩ := H
  replace H : (if t386.length + a1.size < 140737488355328 then (some (t386 ++ bytesOf a1)) else (none)) = some r := H
  have A3 := Aside0.mk A30
  clear A30
  by_cases c4 : t386.length + a1.size < 140737488355328
  · rw [if_pos c4] at H
    have LMc4 := Aside0.mk c4
    clear c4
    obtain ⟨y389, hy389⟩ : ∃ y_ : List Int, y_ = (t386 ++ bytesOf a1) := ⟨_, rfl⟩
    replace H : (some y389) = some r := by first | (rw [hy389]; with_reducible exact H) | (have H2_ := (Option.bind_some _ _).symm.trans H; rw [hy389]; with_reducible exact H2_) | (have H2_ := (Option.bind_some _ _).symm.trans H; with_reducible exact H2_) | with_reducible exact H | (rw [hy389]; exact H) | exact H
    have Ny389 := Aside0.mk hy389
    clear hy389
    obtain rfl := Option.some.inj H
    obtain ⟨Ao5, co5, eo5⟩ := Kd.R_slice HO0.out
    subst eo5
    go_enter Tryz.func58, Tryz.ntmps58
    go_wp2_with (first | ((with_reducible refine gate_callee (f := 56) rfl ?_); refine goesL_ (some 9) rfl rfl Tryz.func56 (by kernel_rfl) rfl #[.slice Ao5 l0.length co5, .int .u64 (IntKind.u64.wrap ((a1.size : Int)))] rfl (by (try simp only [List.map_toArray, List.map_cons, List.map_nil]); first | done | rfl | (simp only [List.length_drop, List.length_take]; rfl)) ?_; (with_reducible refine (leb_PutU.calls k (fun k_ => some k_ = (.slice Ao5 l0.length co5 : Value).ownBlock) (.slice Ao5 l0.length co5) l0 (IntKind.u64.wrap ((a1.size : Int))) t386 w0 _ ?side1 ?side2 A3.out).mono ?_); (case side1 => repeat (first | (with_reducible first | exact HB.out | apply below_alloc | apply pw_below_drewN | apply below_drew1) | exact HB.out)); (case side2 => exact Kd.R_tight rfl HO0.out); rintro e w6 ⟨v387, rfl, ho0, hb, hkp⟩; refine ⟨_, rfl, ?_⟩; have n0_ := Aside0.mk (Kd.R_mono (ok' := fun k_ => (P0_ k_ ∨ w.heap.size ≤ k_)) ho0 (fun k_ hk_ => Or.elim hk_ (fun hs_ => (HO0.out.1 k_ (hs_).symm)) (fun hn_ => (.inr (Nat.le_trans (by first | exact HK.out.1 | exact (show Kept w _ (fun k_ => P0_ k_) from by repeat (first | (with_reducible first | exact HK.out | apply Kept.alloc | apply Kept.drewN | apply Kept.drew) | exact HK.out)).1) hn_))))); have n1_ := Aside0.mk (Kept.then_ (S := (fun k_ => P0_ k_)) (by repeat (first | (with_reducible first | exact HK.out | apply Kept.alloc | apply Kept.drewN | apply Kept.drew) | exact HK.out)) hkp (fun k_ hs_ => (fun e_ => (HO0.out.1 k_ e_.symm)) hs_)); have n2_ := Aside0.mk (hb); clear HK; clear HB; clear HO0; have HO388 := n0_; have HK := n1_; have HB := n2_; clear n0_ n1_ n2_; (try clear hb); (try clear hkp); (try clear ho0)) | (at_builtin; refine append_str_at (w0 := w0) w0.heap.size rfl (.tmp 9) _ 72 9 5 rfl Tryz.underlying72 Tryz.underlying9 info5 v387 t386 a1 rfl rfl ?aO ?aB ?aS ?aL ?_; (case aB => exact (by repeat (first | (with_reducible first | exact HB.out | apply below_alloc | apply pw_below_drewN | apply below_drew1) | exact HB.out))); (case aO => exact (Kd.own_of_R (by (with_reducible repeat (first | apply Kd.R_alloc | apply Kd.R_drewN | apply Kd.R_drew)); exact HO388.out))); (case aS => exact (below_size (by repeat (first | (with_reducible first | exact HB.out | apply below_alloc | apply pw_below_drewN | apply below_drew1) | exact HB.out)))); (case aL => have := LMc4.out; omega); intro v390 w7 ho0 hb hg hnew; have ho := Kd.R_of_own (h1 := fun _ => rfl) (ok := fun k_ => (P0_ k_ ∨ w.heap.size ≤ k_)) ho0 (fun k_ e_ => Or.elim (hnew k_ e_) (fun o_ => HO388.out.1 k_ o_) (fun n_ => .inr (Nat.le_trans (show Kept w _ (fun k_ => P0_ k_) from by repeat (first | (with_reducible first | exact HK.out | apply Kept.alloc | apply Kept.drewN | apply Kept.drew) | exact HK.out)).1 n_))); clear hnew; clear ho0; have hat := True.intro; rw [← Ny389.out] at ho; change Kd.R (Kd.int .u8) 5 w7 w0.heap.size (fun k_ => (P0_ k_ ∨ w.heap.size ≤ k_)) v390 y389 at ho; have n0_ := Aside0.mk (hb); have n1_ := Aside0.mk (Kept.of_grown (S := (fun k_ => P0_ k_)) hg (by repeat (first | (with_reducible first | exact HK.out | apply Kept.alloc | apply Kept.drewN | apply Kept.drew) | exact HK.out)) (fun k_ e_ => (HO388.out.1 k_ e_))); have n2_ := Aside0.mk (ho); clear HB; clear HK; clear HO388; have HB := n0_; have HK := n1_; have HO391 := n2_; clear n0_ n1_ n2_; clear ho hb hg hat))
    go_ret
    exact ⟨_, by first | rfl | (simp [errW_none, errW_some] <;> rfl) | (simp [*, errW_none, errW_some] <;> rfl), by (with_reducible repeat (first | apply Kd.R_alloc | apply Kd.R_drewN | apply Kd.R_drew)); exact HO391.out, by repeat (first | (with_reducible first | exact HB.out | apply below_alloc | apply pw_below_drewN | apply below_drew1) | exact HB.out), by repeat (first | (with_reducible first | exact HK.out | apply Kept.alloc | apply Kept.drewN | apply Kept.drew) | exact HK.out)⟩
  · rw [if_neg c4] at H
    exact absurd H (by simp)
end Go.Proofs.YtiohiiekaofkbaaGreatDoor.PNamesReads
/- Are locals right: slices.ContainsFunc and IndexFunc of locals; are locals the same: slices.EqualFunc. -/
namespace Go.Proofs.YtiohiiekaofkbaaGreatDoor
set_option linter.unusedVariables false
set_option linter.unusedSimpArgs false
open Go.RowKit Go.Proofs.YtiohiiekaofkbaaGreatDoor.PNamesReads Go.Proofs.YtiohiiekaofkbaaGreatDoorW.PrintWords
set_option maxRecDepth 100000 in
set_option maxHeartbeats 4000000 in
theorem indexLocal_walk (A : Option Addr) (c : Nat) (l : List S90) (w : World) (hC : Kd.C k90 w A l.length l) (hlen : l.length ≤ 1000000000) (hs : Short l) :
    Calls Tryz.prog 92 #[.slice A l.length c, .func (.func 81) #[] #[]] w fun e w' => ∃ r, e = .returned (.int .i64 r) ∧ firstN (lNamed l) l.length r ∧ Below w.heap.size w w' := by
  have hu := Tryz.underlying90
  have HC := hid hC
  have HS := hid hs
  clear hC hs
  go_enter Tryz.func92, Tryz.ntmps92
  go_wp2
  go_loopw [5, 8] (fun _ v8 wr => ∃ i : Nat, v8 = .int .i64 i ∧ i ≤ l.length ∧ Hid (allB (lNamed l) i = true) ∧ w.heap.size ≤ wr.heap.size ∧ Hid (Below w.heap.size w wr)) (fun _ v8 _ => l.length - (intOf v8).toNat)
  case atStart => exact ⟨0, by go_num, by omega, hid rfl, Nat.le_refl _, Below.refl _ _⟩
  case round =>
    obtain ⟨i, rfl, hi1, HA, hsz, HB⟩ := hrel
    by_cases hlt : i < l.length
    · have hcr := Kd.C_below HC.out HB.out
      obtain ⟨ad, A1, c1, rfl, e1, e2, l1, g1⟩ := at_T90 hcr (i : Int) (by omega) (by omega)
      rw [Int.toNat_natCast] at e1 e2
      clear hcr
      have hR := right1_walk (rd_T90 l i).f0 A1 c1 (rd_T90 l i).f1 wr g1 (HS.out i hlt).1 (HS.out i hlt).2
      clear g1
      rcases hv : lNamed l i with _ | _
      · have HV := hid hv
        have hv2 : named (rd_T90 l i).f1 = false := hv
        rw [hv2] at hR
        have HR := hid hR
        clear hv hR hv2
        go_wp2_with (first | (go_at_call 81; refine HR.out.mono ?_; rintro e w' ⟨rfl, hb1⟩; (first | have hq1 := hz1 | have hq1 := True.intro); (first | have hq0 := hz0 | have hq0 := True.intro); obtain ⟨hcc, hff⟩ := bcell hb1; have hz1 := hb1.size; (try simp at hz1); (try have hy1 := Nat.lt_of_lt_of_le hq1 hz1); (try have hy0 := Nat.lt_of_lt_of_le hq0 hz1); (try replace hz1 := Nat.lt_of_succ_le hz1); (try have hz0 := Nat.lt_of_succ_lt hz1)))
        go_ret
        exact ⟨i, rfl, .inr ⟨allB_not hlt HV.out, by omega⟩, HB.out.trans (hb1.mono hsz)⟩
      · have HV := hid hv
        have hv2 : named (rd_T90 l i).f1 = true := hv
        rw [hv2] at hR
        have HR := hid hR
        clear hv hR hv2
        go_wp2_with (first | (go_at_call 81; refine HR.out.mono ?_; rintro e w' ⟨rfl, hb1⟩; (first | have hq1 := hz1 | have hq1 := True.intro); (first | have hq0 := hz0 | have hq0 := True.intro); obtain ⟨hcc, hff⟩ := bcell hb1; have hz1 := hb1.size; (try simp at hz1); (try have hy1 := Nat.lt_of_lt_of_le hq1 hz1); (try have hy0 := Nat.lt_of_lt_of_le hq0 hz1); (try replace hz1 := Nat.lt_of_succ_le hz1); (try have hz0 := Nat.lt_of_succ_lt hz1)))
        go_roundw
        case rel => exact ⟨i + 1, by go_num, by omega, hid (by rw [allB, HA.out, HV.out]; rfl), by omega, HB.out.trans (hb1.mono hsz)⟩
        case measure => simp [intOf]; omega
    · go_wp2
      go_ret
      exact ⟨-1, rfl, .inl ⟨by rw [show l.length = i by omega]; exact HA.out, rfl⟩, HB.out⟩
set_option maxRecDepth 100000 in
set_option maxHeartbeats 4000000 in
theorem containsLocal_walk (A : Option Addr) (c : Nat) (l : List S90) (w : World) (hC : Kd.C k90 w A l.length l) (hlen : l.length ≤ 1000000000) (hs : Short l) :
    Calls Tryz.prog 80 #[.slice A l.length c, .func (.func 81) #[] #[]] w fun e w' => e = .returned (.bool (!(allB (lNamed l) l.length))) ∧ Below w.heap.size w w' := by
  have HI := hid (fun W (h : Kd.C k90 W A l.length l) => indexLocal_walk A c l W h hlen hs)
  have HC := hid hC
  clear hC hs
  go_enter Tryz.func80, Tryz.ntmps80
  go_wp2_with (first | (go_at_call 92; refine (HI.out _ HC.out).mono ?_; rintro e w' ⟨r, rfl, hr, hb1⟩; have HR := hid hr; clear hr; (first | have hq1 := hz1 | have hq1 := True.intro); (first | have hq0 := hz0 | have hq0 := True.intro); obtain ⟨hcc, hff⟩ := bcell hb1; have hz1 := hb1.size; (try simp at hz1); (try have hy1 := Nat.lt_of_lt_of_le hq1 hz1); (try have hy0 := Nat.lt_of_lt_of_le hq0 hz1); (try replace hz1 := Nat.lt_of_succ_le hz1); (try have hz0 := Nat.lt_of_succ_lt hz1)))
  go_ret
  refine ⟨ret_bool ?_, hb1⟩
  rcases HR.out with ⟨h1, h2⟩ | ⟨h1, h2⟩
  · subst h2; rw [h1]; rfl
  · rw [h1]; simp; omega
def nEqAt (l o : List S149) (i : Nat) : Bool := ((rd_T149 l i).f0 == (rd_T149 o i).f0) && ((rd_T149 l i).f1.toList == (rd_T149 o i).f1.toList)
def nEq (l o : List S149) : Bool := decide (l.length = o.length) && allB (nEqAt l o) l.length
theorem nEq_loop (l o : List S149) (hl : l.length = o.length) (hm : l.length ≤ 1000000000) (d : Nat) : ∀ i : Nat, i + d = l.length → ∀ k, d < k → allB (nEqAt l o) i = true → names_Name_33.l0 k l o l.length i = some (allB (nEqAt l o) l.length) := by
  induction d with
  | zero =>
    intro i hi k hk hA
    obtain ⟨k, rfl⟩ : ∃ m, k = m + 1 := ⟨k - 1, by omega⟩
    simp only [names_Name_33.l0]
    rw [if_neg (by omega), ← hA, show i = l.length by omega]
  | succ d ih =>
    intro i hi k hk hA
    obtain ⟨k, rfl⟩ : ∃ m, k = m + 1 := ⟨k - 1, by omega⟩
    simp only [names_Name_33.l0]
    rw [if_pos (by omega), if_pos (by omega), if_pos (by omega), if_pos (by omega)]
    rcases hv : nEqAt l o i with _ | _
    · rw [allB_not (by omega : i < l.length) hv]
      have hv2 : (!((rd_T149 l i).f0 == (rd_T149 o i).f0) || !((rd_T149 l i).f1.toList == (rd_T149 o i).f1.toList)) = true := by
        rw [← Bool.not_and, Bool.not_eq_true']; exact hv
      rw [if_pos hv2]
    · have hv2 : ¬ (!((rd_T149 l i).f0 == (rd_T149 o i).f0) || !((rd_T149 l i).f1.toList == (rd_T149 o i).f1.toList)) = true := by
        rw [← Bool.not_and, Bool.not_eq_true', Bool.not_eq_false]; exact hv
      rw [if_neg hv2, show wrap64 ((i : Int) + 1) = ((i + 1 : Nat) : Int) by unfold wrap64; omega]
      exact ih (i + 1) (by omega) k (by omega) (by rw [allB, hA, hv]; rfl)
theorem nEq_some (l o : List S149) (hm : l.length ≤ 1000000000) : names_Name_33.f (l.length + 1) l o = some (nEq l o) := by
  unfold names_Name_33.f nEq
  by_cases h : l.length = o.length
  · rw [if_pos (by omega), decide_eq_true h, Bool.true_and]
    exact nEq_loop l o h hm l.length 0 (by omega) _ (by omega) rfl
  · rw [if_neg (by omega), decide_eq_false h, Bool.false_and]
theorem equalName_walk (A : Option Addr) (c : Nat) (l : List S149) (B : Option Addr) (d : Nat) (o : List S149) (w : World) (hA : Kd.C k149 w A l.length l) (hc : l.length ≤ c) (hB : Kd.C k149 w B o.length o) (hd : o.length ≤ d) (hm : l.length ≤ 1000000000) :
    Calls Tryz.prog 33 #[.slice A l.length c, .slice B o.length d] w fun e w' => e = .returned (.bool (nEq l o)) ∧ Below w.heap.size w w' :=
  (names_Name_33.calls _ A c l B d o _ w hA hc hB hd (nEq_some l o hm)).mono fun _ _ ⟨h1, h2⟩ => ⟨h1, h2.below⟩
def lEqAt (l o : List S90) (i : Nat) : Bool := ((rd_T90 l i).f0 == (rd_T90 o i).f0) && nEq (rd_T90 l i).f1 (rd_T90 o i).f1
def lEq (l o : List S90) : Bool := decide (l.length = o.length) && allB (lEqAt l o) l.length
set_option maxRecDepth 100000 in
set_option maxHeartbeats 4000000 in
theorem lsame_walk (a : Int) (A : Option Addr) (c : Nat) (l : List S149) (b : Int) (B : Option Addr) (d : Nat) (o : List S149) (w : World) (hA : Kd.C k149 w A l.length l) (hc : l.length ≤ c) (hB : Kd.C k149 w B o.length o) (hd : o.length ≤ d) (hm : l.length ≤ 1000000000) :
    Calls Tryz.prog 35 #[.agg #[.int .u32 a, .slice A l.length c], .agg #[.int .u32 b, .slice B o.length d]] w fun e w' => e = .returned (.bool ((a == b) && nEq l o)) ∧ Below w.heap.size w w' := by
  have hu := Tryz.underlying90
  have HI := hid (fun W (h : Below w.heap.size w W) => equalName_walk A c l B d o W (Kd.C_below hA h) hc (Kd.C_below hB h) hd hm)
  clear hA hB
  by_cases hab : a = b
  · subst hab
    go_enter Tryz.func35, Tryz.ntmps35
    go_wp2_with (first | (go_at_call 33; refine (HI.out _ bel).mono ?_; rintro e w' ⟨rfl, hb1⟩; (first | have hq1 := hz1 | have hq1 := True.intro); (first | have hq0 := hz0 | have hq0 := True.intro); obtain ⟨hcc, hff⟩ := bcell hb1; have hz1 := hb1.size; (try simp at hz1); (try have hy1 := Nat.lt_of_lt_of_le hq1 hz1); (try have hy0 := Nat.lt_of_lt_of_le hq0 hz1); (try replace hz1 := Nat.lt_of_succ_le hz1); (try have hz0 := Nat.lt_of_succ_lt hz1)))
    go_ret
    exact ⟨ret_bool (by simp), bel⟩
  · have hab2 : (a == b) = false := by simpa using hab
    go_enter Tryz.func35, Tryz.ntmps35
    go_wp2_with (first | (go_at_call 33; refine (HI.out _ bel).mono ?_; rintro e w' ⟨rfl, hb1⟩; (first | have hq1 := hz1 | have hq1 := True.intro); (first | have hq0 := hz0 | have hq0 := True.intro); obtain ⟨hcc, hff⟩ := bcell hb1; have hz1 := hb1.size; (try simp at hz1); (try have hy1 := Nat.lt_of_lt_of_le hq1 hz1); (try have hy0 := Nat.lt_of_lt_of_le hq0 hz1); (try replace hz1 := Nat.lt_of_succ_le hz1); (try have hz0 := Nat.lt_of_succ_lt hz1)))
    go_ret
    exact ⟨ret_bool (by simp [hab]), bel⟩
end Go.Proofs.YtiohiiekaofkbaaGreatDoor
/- Are names the same: names.Same, slices.EqualFunc of locals. -/
namespace Go.Proofs.YtiohiiekaofkbaaGreatDoor
set_option linter.unusedVariables false
set_option linter.unusedSimpArgs false
open Go.RowKit Go.Proofs.YtiohiiekaofkbaaGreatDoor.PNamesReads Go.Proofs.YtiohiiekaofkbaaGreatDoorW.PrintWords
theorem cell_ltM {w : World} {p : Addr} {v : Value} (h : w.cell? p = some v) : p.block < w.heap.size := World.block_lt_of_cell? w p h
set_option maxRecDepth 100000 in
set_option maxHeartbeats 4000000 in
theorem equalLocal_walk (A : Option Addr) (c : Nat) (l : List S90) (B : Option Addr) (d : Nat) (o : List S90) (w : World) (hA : Kd.C k90 w A l.length l) (hc : l.length ≤ c) (hB : Kd.C k90 w B o.length o) (hd : o.length ≤ d) (hm : l.length ≤ 1000000000) (hs : ∀ i : Nat, i < l.length → (rd_T90 l i).f1.length ≤ 1000000000) :
    Calls Tryz.prog 34 #[.slice A l.length c, .slice B o.length d, .func (.func 35) #[] #[]] w fun e w' => e = .returned (.bool (lEq l o)) ∧ Below w.heap.size w w' := by
  have hu := Tryz.underlying90
  have HA := hid hA
  have HB := hid hB
  have HS := hid hs
  have HCD := hid (And.intro hc hd)
  clear hA hB hs hc hd
  by_cases hn : l.length = o.length
  · rw [← hn] at HB HCD ⊢
    have HN := hid hn
    have hE : lEq l o = allB (lEqAt l o) l.length := by rw [lEq, decide_eq_true hn, Bool.true_and]
    rw [hE]
    clear hn hE
    go_enter Tryz.func34, Tryz.ntmps34
    go_wp2
    go_loopw [17] (fun v17 wr => ∃ i : Nat, v17 = .int .i64 i ∧ i ≤ l.length ∧ Hid (allB (lEqAt l o) i = true) ∧ w.heap.size ≤ wr.heap.size ∧ Hid (Below w.heap.size w wr)) (fun v17 _ => l.length - (intOf v17).toNat)
    case atStart => exact ⟨0, by go_num, by omega, hid rfl, Nat.le_refl _, Below.refl _ _⟩
    case round =>
      obtain ⟨i, rfl, hi1, HI, hsz, HW⟩ := hrel
      by_cases hlt : i < l.length
      · have hca := Kd.C_below HA.out HW.out
        have hcb := Kd.C_below HB.out HW.out
        obtain ⟨ad, A1, c1, rfl, e1, e2, l1, g1⟩ := at_T90 hca (i : Int) (by omega) (by omega)
        obtain ⟨bd, A2, c2, rfl, e3, e4, l2, g2⟩ := at_T90 hcb (i : Int) (by omega) (by omega)
        rw [Int.toNat_natCast] at e1 e2 e3 e4
        clear hca hcb
        have HR := hid (fun W (h : Below wr.heap.size wr W) => lsame_walk (rd_T90 l i).f0 A1 c1 (rd_T90 l i).f1 (rd_T90 o i).f0 A2 c2 (rd_T90 o i).f1 W (Kd.C_below g1 h) l1 (Kd.C_below g2 h) l2 (HS.out i hlt))
        clear g1 g2
        have q1 := cell_ltM e1
        have q3 := cell_ltM e3
        rcases hv : lEqAt l o i with _ | _
        · have HV := hid hv
          have hv2 : (((rd_T90 l i).f0 == (rd_T90 o i).f0) && nEq (rd_T90 l i).f1 (rd_T90 o i).f1) = false := hv
          rw [hv2] at HR
          clear hv hv2
          go_wp2_with (first | (go_at_call 35; refine (HR.out _ bel).mono ?_; rintro e w' ⟨rfl, hb1⟩; (first | have hq1 := hz1 | have hq1 := True.intro); (first | have hq0 := hz0 | have hq0 := True.intro); obtain ⟨hcc, hff⟩ := bcell hb1; have hz1 := hb1.size; (try simp at hz1); (try have hy1 := Nat.lt_of_lt_of_le hq1 hz1); (try have hy0 := Nat.lt_of_lt_of_le hq0 hz1); (try replace hz1 := Nat.lt_of_succ_le hz1); (try have hz0 := Nat.lt_of_succ_lt hz1)))
          go_ret
          exact ⟨ret_bool (allB_not hlt HV.out).symm, HW.out.trans ((bel : Below wr.heap.size wr _).mono hsz)⟩
        · have HV := hid hv
          have hv2 : (((rd_T90 l i).f0 == (rd_T90 o i).f0) && nEq (rd_T90 l i).f1 (rd_T90 o i).f1) = true := hv
          rw [hv2] at HR
          clear hv hv2
          go_wp2_with (first | (go_at_call 35; refine (HR.out _ bel).mono ?_; rintro e w' ⟨rfl, hb1⟩; (first | have hq1 := hz1 | have hq1 := True.intro); (first | have hq0 := hz0 | have hq0 := True.intro); obtain ⟨hcc, hff⟩ := bcell hb1; have hz1 := hb1.size; (try simp at hz1); (try have hy1 := Nat.lt_of_lt_of_le hq1 hz1); (try have hy0 := Nat.lt_of_lt_of_le hq0 hz1); (try replace hz1 := Nat.lt_of_succ_le hz1); (try have hz0 := Nat.lt_of_succ_lt hz1)))
          go_roundw
          case rel => exact ⟨i + 1, by go_num, by omega, hid (by rw [allB, HI.out, HV.out]; rfl), by omega, HW.out.trans ((bel : Below wr.heap.size wr _).mono hsz)⟩
          case measure => simp [intOf]; omega
      · go_wp2
        go_ret
        refine ⟨ret_bool ?_, HW.out⟩
        rw [show l.length = i by omega]; exact HI.out.symm
  · have hn3 : ¬ (l.length : Int) = (o.length : Int) := by omega
    go_enter Tryz.func34, Tryz.ntmps34
    go_wp2
    go_ret
    exact ⟨ret_bool (by simp [lEq, hn]), Below.refl _ _⟩
structure Ns where
  hm : Bool
  hf : Bool
  hl : Bool
  md : ByteArray
  fs : List S149
  ls : List S90
def Ns.small (x : Ns) : Prop := x.md.size ≤ 1000000000 ∧ x.fs.length ≤ 1000000000 ∧ x.ls.length ≤ 1000000000 ∧ (∀ i : Nat, i < x.fs.length → (rd_T149 x.fs i).f1.size ≤ 1000000000) ∧ Short x.ls
def Ns.at (x : Ns) (A : Option Addr) (c : Nat) (B : Option Addr) (d : Nat) (w : World) : Prop := Kd.C k149 w A x.fs.length x.fs ∧ x.fs.length ≤ c ∧ Kd.C k90 w B x.ls.length x.ls ∧ x.ls.length ≤ d
theorem Ns.at.below {x : Ns} {A : Option Addr} {c : Nat} {B : Option Addr} {d : Nat} {w W : World} (h : x.at A c B d w) (hb : Below w.heap.size w W) : x.at A c B d W := ⟨Kd.C_below h.1 hb, h.2.1, Kd.C_below h.2.2.1 hb, h.2.2.2⟩
def sameB (x y : Ns) : Bool := (x.hm == y.hm) && (x.hf == y.hf) && (x.hl == y.hl) && (x.md.toList == y.md.toList) && nEq x.fs y.fs && lEq x.ls y.ls
set_option maxRecDepth 100000 in
set_option maxHeartbeats 4000000 in
theorem same_walk (x y : Ns) (A : Option Addr) (c : Nat) (B : Option Addr) (d : Nat) (A' : Option Addr) (c' : Nat) (B' : Option Addr) (d' : Nat) (w : World) (hx : x.at A c B d w) (hy : y.at A' c' B' d' w) (hs : x.small) :
    Calls Tryz.prog 10 #[.agg #[.bool x.hm, .bool x.hf, .bool x.hl, .string x.md, .slice A x.fs.length c, .slice B x.ls.length d], .agg #[.bool y.hm, .bool y.hf, .bool y.hl, .string y.md, .slice A' y.fs.length c', .slice B' y.ls.length d']] w fun e w' => e = .returned (.bool (sameB x y)) ∧ Below w.heap.size w w' := by
  have hu := Tryz.underlying26
  have HE := hid (fun W (h : Below w.heap.size w W) => equalName_walk A c x.fs A' c' y.fs W (hx.below h).1 hx.2.1 (hy.below h).1 hy.2.1 hs.2.1)
  have HL := hid (fun W (h : Below w.heap.size w W) => equalLocal_walk B d x.ls B' d' y.ls W (hx.below h).2.2.1 hx.2.2.2 (hy.below h).2.2.1 hy.2.2.2 hs.2.2.1 (fun i hi => (hs.2.2.2.2 i hi).1))
  clear hx hy hs
  obtain ⟨b1, b2, b3, m, f, l⟩ := x
  obtain ⟨b1', b2', b3', m', f', l'⟩ := y
  dsimp only at HE HL ⊢
  have HS : Hid (sameB ⟨b1, b2, b3, m, f, l⟩ ⟨b1', b2', b3', m', f', l'⟩ = ((b1 == b1') && (b2 == b2') && (b3 == b3') && (m.toList == m'.toList) && nEq f f' && lEq l l')) := rfl
  go_enter Tryz.func10, Tryz.ntmps10
  go_upto_region 1 with (fail)
  go_cut [5] (fun s5 wx => s5 = .bool ((b1 == b1') && (b2 == b2') && (b3 == b3')) ∧ wx = (w.alloc (.cells #[.bool b1, .bool b2, .bool b3, .string m, .slice A f.length c, .slice B l.length d] 26)).alloc (.cells #[.bool b1', .bool b2', .bool b3', .string m', .slice A' f'.length c', .slice B' l'.length d'] 26))
  case first =>
    cases b1 <;> cases b1' <;> cases b2 <;> cases b2' <;> cases b3 <;> cases b3' <;> (go_wp2; go_meet; exact ⟨rfl, rfl⟩)
  case rest =>
    obtain ⟨rfl, rfl⟩ := hcut
    have hB1 : Below w.heap.size w ((w.alloc (.cells #[.bool b1, .bool b2, .bool b3, .string m, .slice A f.length c, .slice B l.length d] 26)).alloc (.cells #[.bool b1', .bool b2', .bool b3', .string m', .slice A' f'.length c', .slice B' l'.length d'] 26)) := bel
    have HB1 := hid hB1
    clear hB1
    rcases hp : ((b1 == b1') && (b2 == b2') && (b3 == b3')) with _ | _
    · rw [hp, Bool.false_and, Bool.false_and, Bool.false_and] at HS
      clear hp
      go_wp2
      go_ret
      exact ⟨ret_bool HS.out.symm, HB1.out⟩
    · rw [hp, Bool.true_and] at HS
      clear hp
      rcases hm : (m.toList == m'.toList) with _ | _
      · rw [hm, Bool.false_and, Bool.false_and] at HS
        go_wp2
        go_ret
        exact ⟨ret_bool HS.out.symm, HB1.out⟩
      · rw [hm, Bool.true_and] at HS
        rcases hn : nEq f f' with _ | _
        · rw [hn, Bool.false_and] at HS
          rw [hn] at HE
          clear hn
          go_wp2_with (first | (go_at_call 33; refine (HE.out _ HB1.out).mono ?_; rintro e w' ⟨rfl, hb1⟩))
          go_ret
          exact ⟨ret_bool HS.out.symm, HB1.out.trans (hb1.mono HB1.out.size)⟩
        · rw [hn, Bool.true_and] at HS
          rw [hn] at HE
          clear hn
          go_wp2_with (first | (go_at_call 33; refine (HE.out _ HB1.out).mono ?_; rintro e w' ⟨rfl, hb1⟩; have HB2 := hid (HB1.out.trans (hb1.mono HB1.out.size)); (first | have hq1 := hz1 | have hq1 := True.intro); (first | have hq0 := hz0 | have hq0 := True.intro); obtain ⟨hcc, hff⟩ := bcell hb1; have hz1 := hb1.size; (try simp at hz1); (try have hy1 := Nat.lt_of_lt_of_le hq1 hz1); (try have hy0 := Nat.lt_of_lt_of_le hq0 hz1); (try replace hz1 := Nat.lt_of_succ_le hz1); (try have hz0 := Nat.lt_of_succ_lt hz1)) | (go_at_call 34; refine (HL.out _ HB2.out).mono ?_; rintro e w' ⟨rfl, hb2⟩))
          go_ret
          exact ⟨ret_bool HS.out.symm, HB2.out.trans (hb2.mono HB2.out.size)⟩
end Go.Proofs.YtiohiiekaofkbaaGreatDoor
/- Printed for this claim. -/
namespace Go.Proofs.YtiohiiekaofkbaaGreatDoor.PNamesReads
open Go.RowKit Go.Proofs.YtiohiiekaofkbaaGreatDoorW.PrintWords Go.Proofs.YtiohiiekaofkbaaGreatDoorW.PrintLast Go.Proofs.YtiohiiekaofkbaaGreatDoorW.PrintMore
attribute [local go_sem] max2_int min2_int max_two min_two max_three min_three max_four min_four
set_option linter.unusedVariables false
set_option linter.unusedSimpArgs false
def dobbylaw14_backList.l0 : Nat → List (S149) → List (S182) → Int → Option ((List (S182)))
  | 0, _, _, _ => none
  | k + 1, x0, x3, x4 => if x4 < (x0.length : Int) then (if 0 ≤ x4 then (if x3.length < 5864062014805 then (dobbylaw14_backList.l0 k x0 (x3 ++ [(⟨(rd_T149 x0 x4).f0, (rd_T149 x0 x4).f1⟩ : S182)]) (wrap64 (x4 + 1))) else (none)) else (none)) else (some x3)
def dobbylaw14_backList.f (k : Nat) (l0 : List (S149)) : Option ((List (S182))) := dobbylaw14_backList.l0 k l0 ([] : List (S182)) 0
theorem dobbylaw14_backList.mono_l : ∀ k, (∀ y0 y1 y2, LeO (dobbylaw14_backList.l0 k y0 y1 y2) (dobbylaw14_backList.l0 (k + 1) y0 y1 y2))
  | 0 => fun _ _ _ r h => by simp [dobbylaw14_backList.l0] at h
  | k + 1 => by
    have ih0 := dobbylaw14_backList.mono_l k
    · intro y0 y1 y2
      unfold dobbylaw14_backList.l0
      repeat' first
      | (with_reducible exact ih0 _ _ _)
      | (with_reducible exact LeO.refl _)
      | (with_reducible exact LeO.none _)
      | (with_reducible refine LeO.ite ?_ ?_)
      | (with_reducible refine LeO.bind ?_ (fun _ => ?_))
      | exact ih0 _ _ _
      | exact LeO.none _
      | refine LeO.ite ?_ ?_
      | refine LeO.bind ?_ (fun _ => ?_)
theorem dobbylaw14_backList.mono : ∀ a0 k, LeO (dobbylaw14_backList.f k a0) (dobbylaw14_backList.f (k + 1) a0) := by
  intro a0 k
  have ih0 := dobbylaw14_backList.mono_l k
  unfold dobbylaw14_backList.f
  repeat' first
      | (with_reducible exact ih0 _ _ _)
      | (with_reducible exact LeO.refl _)
      | (with_reducible exact LeO.none _)
      | (with_reducible refine LeO.ite ?_ ?_)
      | (with_reducible refine LeO.bind ?_ (fun _ => ?_))
      | exact ih0 _ _ _
      | exact LeO.none _
      | refine LeO.ite ?_ ?_
      | refine LeO.bind ?_ (fun _ => ?_)
def dobbylaw14_backList.T5 : Bool × List (List Nat × List Nat) := (true, [([], []), ([], []), ([], []), ([1, 2], [1, 2]), ([3], [3]), ([4], [4]), ([], []), ([], []), ([6, 7], [6, 7]), ([8], [8]), ([9], [9]), ([5, 10], [5, 10]), ([11], [11]), ([0, 12], [0, 12]), ([13, 13, 0, 1, 2, 3, 4, 5, 6, 7, 8, 9, 10, 11, 12, 13], [0, 13])])
def dobbylaw14_backList.B5 : List Nat := [0, 0, 0, 6, 14, 30, 0, 0, 192, 448, 960, 2046, 4094, 8191, 16383]
theorem dobbylaw14_backList.tab5 : rtab .any (opsOf Tryz.f23 5) = dobbylaw14_backList.T5 := by kernel_rfl
theorem dobbylaw14_backList.bits5 : waitsOk dobbylaw14_backList.T5.2 dobbylaw14_backList.B5 = true := by kernel_rfl
set_option maxHeartbeats 8000000 in
set_option maxRecDepth 100000 in
theorem dobbylaw14_backList.calls (k : Nat) (A0 : Option Addr) (c0 : Nat) (l0 : List (S149)) (r : List (S182)) (w : World) (hr0 : Kd.C k149 w A0 l0.length l0) (hc0 : l0.length ≤ c0) (h : dobbylaw14_backList.f k l0 = some r) :
    Calls Tryz.prog 23 #[.slice A0 l0.length c0] w fun e w' => ∃ v0_ : Value, e = .returned (v0_) ∧ Kd.R k182 182 w' w.heap.size (fun _ => True) v0_ r ∧ Below w.heap.size w w' := by
  have hu182 := Tryz.underlying182
  have HR0 := Aside0.mk hr0
  have HC0 := Aside0.mk hc0
  clear hr0 hc0
  have HB := Aside0.mk (Below.refl w.heap.size w)
  have H : (dobbylaw14_backList.l0 k l0 ([] : List (S182)) 0) = some r := h
  clear h
  have H' := Aside0.mk H
  clear H
  go_enter Tryz.func23, Tryz.ntmps23
  go_wp2
  go_loopg [3, 4] k (fun kq v3 v4 w' => ∃ (x3_1 : List (S182)) (x4_1 : Int), v4 = .int .i64 x4_1 ∧ Aside0 (dobbylaw14_backList.l0 kq l0 x3_1 x4_1 = some r) ∧ Aside0 (kq ≤ k) ∧ Aside0 (Kd.R k182 182 w' w.heap.size (fun _ => True) v3 x3_1) ∧ Aside0 (Below w.heap.size w w'))
  case atStart => exact ⟨(([] : List (S182))), (0), (by first | rfl | (simp; done) | (simp [*]; done)), H', ⟨Nat.le_refl _⟩, ⟨by first | exact Kd.R_nil _ _ _ _ _ | exact Kd.N_nil _ _ _ _ _ | exact Kd.V_nil _ _ _ _ _ | exact Kd.Q_nil _ _ _ _ _ | exact Kd.S_nil _ _ _ _ _⟩, ⟨by repeat (first | (with_reducible first | exact HB.out | apply below_alloc | apply pw_below_drewN | apply below_drew1) | exact HB.out)⟩⟩
  case round =>
    clear H'
    obtain ⟨x3_1, x4_1, rfl, HA, HK1, HO_3, HB⟩ := hrel
    cases gk with
    | zero => exact absurd HA.out (by simp [dobbylaw14_backList.l0])
    | succ k1 =>
      have H := HA.out
      clear HA
      simp only [dobbylaw14_backList.l0] at H
      by_cases c2 : x4_1 < (l0.length : Int)
      · rw [if_pos c2] at H
        have c2b0 : decide (x4_1 < (l0.length : Int)) = true := decide_eq_true c2
        clear c2
        by_cases c3 : 0 ≤ x4_1
        · rw [if_pos c3] at H
          have c3b0 : decide (0 ≤ x4_1) = true := decide_eq_true c3
          clear c3
          by_cases c4 : x3_1.length < 5864062014805
          · rw [if_pos c4] at H
            have LMc4 := Aside0.mk c4
            clear c4
            obtain ⟨y143, hy143⟩ : ∃ y_ : List (S182), y_ = (x3_1 ++ [(⟨(rd_T149 l0 x4_1).f0, (rd_T149 l0 x4_1).f1⟩ : S182)]) := ⟨_, rfl⟩
            replace H : (dobbylaw14_backList.l0 k1 l0 y143 (wrap64 (x4_1 + 1))) = some r := by first | (rw [hy143]; with_reducible exact H) | (have H2_ := (Option.bind_some _ _).symm.trans H; rw [hy143]; with_reducible exact H2_) | (have H2_ := (Option.bind_some _ _).symm.trans H; with_reducible exact H2_) | with_reducible exact H | (rw [hy143]; exact H) | exact H
            have Ny143 := Aside0.mk hy143
            clear hy143
            have H' := Aside0.mk H
            clear H
            try go_wp2
            have n0_ := Aside0.mk (Kd.R_drew HO_3.out)
            have n1_ := Aside0.mk (below_drew1 HB.out)
            clear HO_3
            clear HB
            have HO_3 := n0_
            have HB := n1_
            clear n0_ n1_
            have p141 : 0 ≤ (x4_1 : Int) := of_decide_eq_true (by first | (with_reducible assumption) | assumption)
            have q141 : x4_1 < (l0.length : Int) := of_decide_eq_true (by first | (with_reducible assumption) | assumption)
            obtain ⟨ad141, e141, hx141_0, hx141_1⟩ := at_T149 HR0.out x4_1 p141 q141
            have hw141_1 := hx141_1
            have hw141_0 := hx141_0
            cases e141
            replace hx141_0 := (HB.out.cell (World.block_lt_of_cell? w _ hx141_0)).trans hx141_0
            replace hx141_1 := (HB.out.cell (World.block_lt_of_cell? w _ hx141_1)).trans hx141_1
            replace p141 := eq_true p141
            replace q141 := eq_true q141
            have p142 : 0 ≤ (x4_1 : Int) := of_decide_eq_true (by first | (with_reducible assumption) | assumption)
            have q142 : x4_1 < (l0.length : Int) := of_decide_eq_true (by first | (with_reducible assumption) | assumption)
            obtain ⟨ad142, e142, hx142_0, hx142_1⟩ := at_T149 HR0.out x4_1 p142 q142
            have hw142_1 := hx142_1
            have hw142_0 := hx142_0
            obtain rfl : ad141 = ad142 := (by injection e142)
            replace hx142_0 := (HB.out.cell (World.block_lt_of_cell? w _ hx142_0)).trans hx142_0
            replace hx142_1 := (HB.out.cell (World.block_lt_of_cell? w _ hx142_1)).trans hx142_1
            replace p142 := eq_true p142
            replace q142 := eq_true q142
            refine start_ (n := 15) (S := fun w' => w'.cell? (ad141.add ((x4_1).toNat * 2)) = some (.int .u32 ((rd_T149 l0 x4_1).f0)) ∧ w'.cell? ⟨(ad141.add ((x4_1).toNat * 2)).block, (ad141.add ((x4_1).toNat * 2)).off + 1, none⟩ = some (.string ((rd_T149 l0 x4_1).f1)) ∧ w'.cell? (ad141.add ((x4_1).toNat * 2)) = some (.int .u32 ((rd_T149 l0 x4_1).f0)) ∧ w'.cell? ⟨(ad141.add ((x4_1).toNat * 2)).block, (ad141.add ((x4_1).toNat * 2)).off + 1, none⟩ = some (.string ((rd_T149 l0 x4_1).f1))) (ds := []) #[false, false, false, false, false, false, false, false, false, false, false, false, false, false, false] (by kernel_rfl) rfl rfl ⟨((HB.out.cell (World.block_lt_of_cell? w _ hw141_0)).trans hw141_0), ((HB.out.cell (World.block_lt_of_cell? w _ hw141_1)).trans hw141_1), ((HB.out.cell (World.block_lt_of_cell? w _ hw142_0)).trans hw142_0), ((HB.out.cell (World.block_lt_of_cell? w _ hw142_1)).trans hw142_1)⟩ (fun hHeld => ?_); refine with_tabW dobbylaw14_backList.tab5 dobbylaw14_backList.bits5 (fun HT_ HW_ => ?_)
            generalize wr.drew = w5 at HO_3 HB hx141_0 hx141_1 hx142_0 hx142_1 hHeld ⊢
            refine pure_ (i := 0) (N := some 11) (v := ?_) (a' := ?_) #[true, false, false, false, false, false, false, false, false, false, false, false, false, false, false] rfl rfl (any_of HT_.out (by kernel_rfl)) (fun _ _ _ h => h) (Or.inl ⟨by rfl, ?_⟩) ?_ ?_
            rotate_left
            · intro w'
              go_simp
              with_reducible rfl
            rotate_left
            · simp only [Act.put, List.setIfInBounds_toArray, List.set_cons_zero, List.set_cons_succ, i64_w, i32_w]
              rfl
            refine pure_ (i := 1) (N := some 12) (v := ?_) (a' := ?_) #[true, true, false, false, false, false, false, false, false, false, false, false, false, false, false] rfl rfl (any_of HT_.out (by kernel_rfl)) (fun _ _ _ h => h) (Or.inl ⟨by rfl, ?_⟩) ?_ ?_
            rotate_left
            · intro w'
              go_simp
              with_reducible rfl
            rotate_left
            · simp only [Act.put, List.setIfInBounds_toArray, List.set_cons_zero, List.set_cons_succ, i64_w, i32_w]
              rfl
            refine pure_ (i := 2) (N := some 13) (v := ?_) (a' := ?_) #[true, true, true, false, false, false, false, false, false, false, false, false, false, false, false] rfl rfl (any_of HT_.out (by kernel_rfl)) (fun _ _ _ h => h) (Or.inl ⟨by rfl, ?_⟩) ?_ ?_
            rotate_left
            · intro w'
              go_simp
              with_reducible rfl
            rotate_left
            · simp only [Act.put, List.setIfInBounds_toArray, List.set_cons_zero, List.set_cons_succ, i64_w, i32_w]
              rfl
            refine pure_ (i := 3) (N := some 14) (v := ?_) (a' := ?_) #[true, true, true, true, false, false, false, false, false, false, false, false, false, false, false] rfl rfl (any_of HT_.out (by kernel_rfl)) (fun _ _ _ h => h) (Or.inl ⟨by rfl, ?_⟩) ?_ ?_
            rotate_left
            · intro w'
              go_simp
              with_reducible rfl
            rotate_left
            · simp only [Act.put, List.setIfInBounds_toArray, List.set_cons_zero, List.set_cons_succ, i64_w, i32_w]
              rfl
            refine pure_ (i := 4) (N := some 15) (v := ?_) (a' := ?_) #[true, true, true, true, true, false, false, false, false, false, false, false, false, false, false] rfl rfl (any_of HT_.out (by kernel_rfl)) (fun _ _ _ h => h) (Or.inl ⟨by rfl, ?_⟩) ?_ ?_
            rotate_left
            · intro w'
              go_simp
              with_reducible rfl
            rotate_left
            · simp only [Act.put, List.setIfInBounds_toArray, List.set_cons_zero, List.set_cons_succ, i64_w, i32_w]
              rfl
            refine pure_ (i := 6) (N := some 17) (v := ?_) (a' := ?_) #[true, true, true, true, true, false, true, false, false, false, false, false, false, false, false] rfl rfl (any_of HT_.out (by kernel_rfl)) (fun _ _ _ h => h) (Or.inl ⟨by rfl, ?_⟩) ?_ ?_
            rotate_left
            · intro w'
              go_simp
              with_reducible rfl
            rotate_left
            · simp only [Act.put, List.setIfInBounds_toArray, List.set_cons_zero, List.set_cons_succ, i64_w, i32_w]
              rfl
            refine pure_ (i := 7) (N := some 18) (v := ?_) (a' := ?_) #[true, true, true, true, true, false, true, true, false, false, false, false, false, false, false] rfl rfl (any_of HT_.out (by kernel_rfl)) (fun _ _ _ h => h) (Or.inl ⟨by rfl, ?_⟩) ?_ ?_
            rotate_left
            · intro w'
              go_simp
              with_reducible rfl
            rotate_left
            · simp only [Act.put, List.setIfInBounds_toArray, List.set_cons_zero, List.set_cons_succ, i64_w, i32_w]
              rfl
            refine pure_ (i := 8) (N := some 19) (v := ?_) (a' := ?_) #[true, true, true, true, true, false, true, true, true, false, false, false, false, false, false] rfl rfl (any_of HT_.out (by kernel_rfl)) (fun _ _ _ h => h) (Or.inl ⟨by rfl, ?_⟩) ?_ ?_
            rotate_left
            · intro w'
              go_simp
              with_reducible rfl
            rotate_left
            · simp only [Act.put, List.setIfInBounds_toArray, List.set_cons_zero, List.set_cons_succ, i64_w, i32_w]
              rfl
            refine pure_ (i := 9) (N := some 20) (v := ?_) (a' := ?_) #[true, true, true, true, true, false, true, true, true, true, false, false, false, false, false] rfl rfl (any_of HT_.out (by kernel_rfl)) (fun _ _ _ h => h) (Or.inl ⟨by rfl, ?_⟩) ?_ ?_
            rotate_left
            · intro w'
              go_simp
              with_reducible rfl
            rotate_left
            · simp only [Act.put, List.setIfInBounds_toArray, List.set_cons_zero, List.set_cons_succ, i64_w, i32_w]
              rfl
            refine take_ (i := 5) (N := some 16) (v := ?_) (a' := ?_) #[true, true, true, true, true, true, true, true, true, true, false, false, false, false, false] rfl rfl (take_ofW HT_.out HW_.out (by kernel_rfl)) (fun _ _ _ h => h) (Or.inl ⟨by rfl, ?_⟩) hHeld ?_ ?_
            rotate_left
            · rintro w' ⟨s0, s1, s2, s3⟩
              go_simp
              with_reducible rfl
            rotate_left
            · simp only [Act.put, List.setIfInBounds_toArray, List.set_cons_zero, List.set_cons_succ, i64_w, i32_w]
              rfl
            refine take_ (i := 10) (N := some 21) (v := ?_) (a' := ?_) #[true, true, true, true, true, true, true, true, true, true, true, false, false, false, false] rfl rfl (take_ofW HT_.out HW_.out (by kernel_rfl)) (fun _ _ _ h => h) (Or.inl ⟨by rfl, ?_⟩) hHeld ?_ ?_
            rotate_left
            · rintro w' ⟨s0, s1, s2, s3⟩
              go_simp
              with_reducible rfl
            rotate_left
            · simp only [Act.put, List.setIfInBounds_toArray, List.set_cons_zero, List.set_cons_succ, i64_w, i32_w]
              rfl
            refine pure_ (i := 11) (N := some 22) (v := ?_) (a' := ?_) #[true, true, true, true, true, true, true, true, true, true, true, true, false, false, false] rfl rfl (any_of HT_.out (by kernel_rfl)) (fun _ _ _ h => h) (Or.inl ⟨by rfl, ?_⟩) ?_ ?_
            rotate_left
            · intro w'
              go_simp
              with_reducible rfl
            rotate_left
            · simp only [Act.put, List.setIfInBounds_toArray, List.set_cons_zero, List.set_cons_succ, i64_w, i32_w]
              rfl
            refine one_ (i := 12) (N := some 23) #[true, true, true, true, true, true, true, true, true, true, true, true, true, false, false] rfl rfl (one_of HT_.out (by kernel_rfl)) (by decide) (fun K hK => ?_)
            refine value_ (w1 := ?_) (v := ?_) (by rfl) rfl ?_ ?_
            rotate_left 2
            · go_simp
              constructor
              · rfl
              · rfl
            refine hK.out _ _ ⟨(World.cell?_alloc_lt _ _ _ (World.block_lt_of_cell? _ _ (((HB.out.cell (World.block_lt_of_cell? w _ hw141_0)).trans hw141_0)))).trans (((HB.out.cell (World.block_lt_of_cell? w _ hw141_0)).trans hw141_0)), (World.cell?_alloc_lt _ _ _ (World.block_lt_of_cell? _ _ (((HB.out.cell (World.block_lt_of_cell? w _ hw141_1)).trans hw141_1)))).trans (((HB.out.cell (World.block_lt_of_cell? w _ hw141_1)).trans hw141_1)), (World.cell?_alloc_lt _ _ _ (World.block_lt_of_cell? _ _ (((HB.out.cell (World.block_lt_of_cell? w _ hw142_0)).trans hw142_0)))).trans (((HB.out.cell (World.block_lt_of_cell? w _ hw142_0)).trans hw142_0)), (World.cell?_alloc_lt _ _ _ (World.block_lt_of_cell? _ _ (((HB.out.cell (World.block_lt_of_cell? w _ hw142_1)).trans hw142_1)))).trans (((HB.out.cell (World.block_lt_of_cell? w _ hw142_1)).trans hw142_1))⟩ (fun hHeld => ?_)
            clear hK K
            refine norm_ (a' := ?_) ?_ ?_
            rotate_left
            · show Act.put _ (some 23) _ = _
              simp only [Act.put, List.setIfInBounds_toArray, List.set_cons_zero, List.set_cons_succ, i64_w, i32_w]
              rfl
            refine one_ (i := 13) (N := some 24) #[true, true, true, true, true, true, true, true, true, true, true, true, true, true, false] rfl rfl (one_of HT_.out (by kernel_rfl)) (by decide) (fun K hK => ?_)
            refine Kd.R_append_step k182 (w0 := w) w.heap.size (by rfl) (.tmp 11) (.tmp 23) 29 182 (.agg #[(.int .u32 0), (.string ⟨#[]⟩)]) 24 rfl Tryz.underlying29 info182 rfl (by decide) (by omega) u3 x3_1 (⟨(rd_T149 l0 x4_1).f0, (rd_T149 l0 x4_1).f1⟩ : S182) [.int .u32 ((rd_T149 l0 x4_1).f0), .string ((rd_T149 l0 x4_1).f1)] (fun _ => True) (fun _ => False) rfl rfl ?aP (fun _ hk => hk.elim) ?aF ?aO ?aB ?aS ?aL ?_
            (case aP => exact k182_mkM _ _ _ (⟨(rd_T149 l0 x4_1).f0, (rd_T149 l0 x4_1).f1⟩ : S182))
            (case aB => exact (by repeat (first | (with_reducible first | exact HB.out | apply below_alloc | apply pw_below_drewN | apply below_drew1) | exact HB.out)))
            (case aF => exact (fun _ _ => trivial))
            (case aO => exact (by (with_reducible repeat (first | apply Kd.R_alloc | apply Kd.R_drewN | apply Kd.R_drew)); exact HO_3.out))
            (case aS => exact (below_size (by repeat (first | (with_reducible first | exact HB.out | apply below_alloc | apply pw_below_drewN | apply below_drew1) | exact HB.out))))
            (case aL => have := LMc4.out; omega)
            intro v144 w6 ho hb hg hat
            rw [← Ny143.out] at ho
            have n0_ := Aside0.mk (hb)
            have n1_ := Aside0.mk (ho)
            clear HB
            clear HO_3
            have HB := n0_
            have HO145 := n1_
            clear n0_ n1_
            clear ho hb hg hat
            refine hK.out _ _ ⟨((HB.out.cell (World.block_lt_of_cell? w _ hw141_0)).trans hw141_0), ((HB.out.cell (World.block_lt_of_cell? w _ hw141_1)).trans hw141_1), ((HB.out.cell (World.block_lt_of_cell? w _ hw142_0)).trans hw142_0), ((HB.out.cell (World.block_lt_of_cell? w _ hw142_1)).trans hw142_1)⟩ (fun hHeld => ?_)
            clear hK K
            refine norm_ (a' := ?_) ?_ ?_
            rotate_left
            · show Act.put _ (some 24) _ = _
              simp only [Act.put, List.setIfInBounds_toArray, List.set_cons_zero, List.set_cons_succ, i64_w, i32_w]
              rfl
            refine pure_ (i := 14) (N := some 3) (v := ?_) (a' := ?_) #[true, true, true, true, true, true, true, true, true, true, true, true, true, true, true] rfl rfl (any_of HT_.out (by kernel_rfl)) (fun _ _ _ h => h) (Or.inl ⟨by rfl, ?_⟩) ?_ ?_
            rotate_left
            · intro w'
              go_simp
              with_reducible rfl
            rotate_left
            · simp only [Act.put, List.setIfInBounds_toArray, List.set_cons_zero, List.set_cons_succ, i64_w, i32_w]
              rfl
            refine done_ (done_of HT_.out (by kernel_rfl)) ?_
            try go_wp2
            go_roundg k1
            case measure => have := HK1.out; omega
            case rel => exact ⟨(y143), (wrap64 (x4_1 + 1)), (by first | rfl | (simp; done) | (simp [*]; done)), H', ⟨by have := HK1.out; omega⟩, ⟨by (with_reducible repeat (first | apply Kd.R_alloc | apply Kd.R_drewN | apply Kd.R_drew)); exact HO145.out⟩, ⟨by repeat (first | (with_reducible first | exact HB.out | apply below_alloc | apply pw_below_drewN | apply below_drew1) | exact HB.out)⟩⟩
          · rw [if_neg c4] at H
            exact absurd H (by simp)
        · rw [if_neg c3] at H
          exact absurd H (by simp)
      · rw [if_neg c2] at H
        have c2b0 : decide (x4_1 < (l0.length : Int)) = false := decide_eq_false c2
        clear c2
        obtain rfl := Option.some.inj H
        go_wp2
        go_ret
        exact ⟨_, by first | rfl | (simp [errW_none, errW_some] <;> rfl) | (simp [*, errW_none, errW_some] <;> rfl), by (with_reducible repeat (first | apply Kd.R_alloc | apply Kd.R_drewN | apply Kd.R_drew)); exact HO_3.out, by repeat (first | (with_reducible first | exact HB.out | apply below_alloc | apply pw_below_drewN | apply below_drew1) | exact HB.out)⟩
end Go.Proofs.YtiohiiekaofkbaaGreatDoor.PNamesReads
