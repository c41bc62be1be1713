/- Texts of this claim, as far as they are used here: PNamesReadsx6, L11. -/
import Derived.Test.YtiohiiekaofkbaaGreatDoorZ04
import Derived.Test.YtiohiiekaofkbaaGreatDoorZ12
import Derived.Test.YtiohiiekaofkbaaGreatDoorZ10
import Derived.Test.YtiohiiekaofkbaaGreatDoorZ11
/- Printed for this claim. -/
namespace Go.Proofs.YtiohiiekaofkbaaGreatDoor.PNamesReads
open Go.RowKit Go.Proofs.YtiohiiekaofkbaaGreatDoorW.PrintWords Go.Proofs.YtiohiiekaofkbaaGreatDoorW.PrintLast Go.Proofs.YtiohiiekaofkbaaGreatDoorW.PrintMore
attribute [local go_sem] max2_int min2_int max_two min_two max_three min_three max_four min_four
set_option linter.unusedVariables false
set_option linter.unusedSimpArgs false
mutual
def dobbyref14_Same.j0 : Nat → Bool → Bool → Bool → Bool → ByteArray → List (S182) → List (S86) → Bool → Bool → Bool → ByteArray → List (S182) → List (S86) → Option (Bool)
  | 0, _, _, _, _, _, _, _, _, _, _, _, _, _ => none
  | k + 1, x48, x134000, x134001, x134002, x134003, x134004, x134005, x135000, x135001, x135002, x135003, x135004, x135005 => if x48 = true then (some false) else (dobbyref14_Same.l0 k 0 x134000 x134001 x134002 x134003 x134004 x134005 x135000 x135001 x135002 x135003 x135004 x135005)
def dobbyref14_Same.l0 : Nat → Int → Bool → Bool → Bool → ByteArray → List (S182) → List (S86) → Bool → Bool → Bool → ByteArray → List (S182) → List (S86) → Option (Bool)
  | 0, _, _, _, _, _, _, _, _, _, _, _, _, _ => none
  | k + 1, x5, x134000, x134001, x134002, x134003, x134004, x134005, x135000, x135001, x135002, x135003, x135004, x135005 => if x5 < (x134005.length : Int) then (if 0 ≤ x5 then (if x5 < (x135005.length : Int) then (if ((rd_T86 x134005 x5).f0) = ((rd_T86 x135005 x5).f0) then ((dobbyref14_alike.f k ((rd_T86 x134005 x5).f1) ((rd_T86 x135005 x5).f1)).bind fun t140 => (if t140 = true then (dobbyref14_Same.l0 k (wrap64 (x5 + 1)) x134000 x134001 x134002 x134003 x134004 x134005 x135000 x135001 x135002 x135003 x135004 x135005) else (some false))) else (some false)) else (none)) else (none)) else (some true)
end
def dobbyref14_Same.f (k : Nat) (a0_0 : Bool) (a0_1 : Bool) (a0_2 : Bool) (a0_3 : ByteArray) (l0_4 : List (S182)) (l0_5 : List (S86)) (a1_0 : Bool) (a1_1 : Bool) (a1_2 : Bool) (a1_3 : ByteArray) (l1_4 : List (S182)) (l1_5 : List (S86)) : Option (Bool) := if (a0_0 != a1_0) = true then (dobbyref14_Same.j0 k true a0_0 a0_1 a0_2 a0_3 l0_4 l0_5 a1_0 a1_1 a1_2 a1_3 l1_4 l1_5) else (if (a0_1 != a1_1) = true then (dobbyref14_Same.j0 k true a0_0 a0_1 a0_2 a0_3 l0_4 l0_5 a1_0 a1_1 a1_2 a1_3 l1_4 l1_5) else (if (a0_2 != a1_2) = true then (dobbyref14_Same.j0 k true a0_0 a0_1 a0_2 a0_3 l0_4 l0_5 a1_0 a1_1 a1_2 a1_3 l1_4 l1_5) else (if a0_3.toList = a1_3.toList then ((dobbyref14_alike.f k l0_4 l1_4).bind fun t135 => (if t135 = true then (dobbyref14_Same.j0 k ((l0_5.length : Int) != (l1_5.length : Int)) a0_0 a0_1 a0_2 a0_3 l0_4 l0_5 a1_0 a1_1 a1_2 a1_3 l1_4 l1_5) else (dobbyref14_Same.j0 k true a0_0 a0_1 a0_2 a0_3 l0_4 l0_5 a1_0 a1_1 a1_2 a1_3 l1_4 l1_5))) else (dobbyref14_Same.j0 k true a0_0 a0_1 a0_2 a0_3 l0_4 l0_5 a1_0 a1_1 a1_2 a1_3 l1_4 l1_5))))
theorem dobbyref14_Same.mono_l : ∀ k, (∀ y0 y1 y2 y3 y4 y5 y6 y7 y8 y9 y10 y11 y12, LeO (dobbyref14_Same.j0 k y0 y1 y2 y3 y4 y5 y6 y7 y8 y9 y10 y11 y12) (dobbyref14_Same.j0 (k + 1) y0 y1 y2 y3 y4 y5 y6 y7 y8 y9 y10 y11 y12)) ∧ (∀ y0 y1 y2 y3 y4 y5 y6 y7 y8 y9 y10 y11 y12, LeO (dobbyref14_Same.l0 k y0 y1 y2 y3 y4 y5 y6 y7 y8 y9 y10 y11 y12) (dobbyref14_Same.l0 (k + 1) y0 y1 y2 y3 y4 y5 y6 y7 y8 y9 y10 y11 y12))
  | 0 => ⟨fun _ _ _ _ _ _ _ _ _ _ _ _ _ r h => by simp [dobbyref14_Same.j0] at h, fun _ _ _ _ _ _ _ _ _ _ _ _ _ r h => by simp [dobbyref14_Same.l0] at h⟩
  | k + 1 => by
    obtain ⟨ih0, ih1⟩ := dobbyref14_Same.mono_l k
    refine ⟨?_, ?_⟩
    · intro y0 y1 y2 y3 y4 y5 y6 y7 y8 y9 y10 y11 y12
      unfold dobbyref14_Same.j0
      repeat' first
      | (with_reducible exact ih0 _ _ _ _ _ _ _ _ _ _ _ _ _)
      | (with_reducible exact ih1 _ _ _ _ _ _ _ _ _ _ _ _ _)
      | (with_reducible exact dobbyref14_alike.mono _ _ _)
      | (with_reducible exact LeO.refl _)
      | (with_reducible exact LeO.none _)
      | (with_reducible refine LeO.ite ?_ ?_)
      | (with_reducible refine LeO.bind ?_ (fun _ => ?_))
      | exact ih0 _ _ _ _ _ _ _ _ _ _ _ _ _
      | exact ih1 _ _ _ _ _ _ _ _ _ _ _ _ _
      | exact dobbyref14_alike.mono _ _ _
      | exact LeO.none _
      | refine LeO.ite ?_ ?_
      | refine LeO.bind ?_ (fun _ => ?_)
    · intro y0 y1 y2 y3 y4 y5 y6 y7 y8 y9 y10 y11 y12
      unfold dobbyref14_Same.l0
      repeat' first
      | (with_reducible exact ih0 _ _ _ _ _ _ _ _ _ _ _ _ _)
      | (with_reducible exact ih1 _ _ _ _ _ _ _ _ _ _ _ _ _)
      | (with_reducible exact dobbyref14_alike.mono _ _ _)
      | (with_reducible exact LeO.refl _)
      | (with_reducible exact LeO.none _)
      | (with_reducible refine LeO.ite ?_ ?_)
      | (with_reducible refine LeO.bind ?_ (fun _ => ?_))
      | exact ih0 _ _ _ _ _ _ _ _ _ _ _ _ _
      | exact ih1 _ _ _ _ _ _ _ _ _ _ _ _ _
      | exact dobbyref14_alike.mono _ _ _
      | exact LeO.none _
      | refine LeO.ite ?_ ?_
      | refine LeO.bind ?_ (fun _ => ?_)
theorem dobbyref14_Same.mono : ∀ a0 a1 a2 a3 a4 a5 a6 a7 a8 a9 a10 a11 k, LeO (dobbyref14_Same.f k a0 a1 a2 a3 a4 a5 a6 a7 a8 a9 a10 a11) (dobbyref14_Same.f (k + 1) a0 a1 a2 a3 a4 a5 a6 a7 a8 a9 a10 a11) := by
  intro a0 a1 a2 a3 a4 a5 a6 a7 a8 a9 a10 a11 k
  obtain ⟨ih0, ih1⟩ := dobbyref14_Same.mono_l k
  unfold dobbyref14_Same.f
  repeat' first
      | (with_reducible exact ih0 _ _ _ _ _ _ _ _ _ _ _ _ _)
      | (with_reducible exact ih1 _ _ _ _ _ _ _ _ _ _ _ _ _)
      | (with_reducible exact dobbyref14_alike.mono _ _ _)
      | (with_reducible exact LeO.refl _)
      | (with_reducible exact LeO.none _)
      | (with_reducible refine LeO.ite ?_ ?_)
      | (with_reducible refine LeO.bind ?_ (fun _ => ?_))
      | exact ih0 _ _ _ _ _ _ _ _ _ _ _ _ _
      | exact ih1 _ _ _ _ _ _ _ _ _ _ _ _ _
      | exact dobbyref14_alike.mono _ _ _
      | exact LeO.none _
      | refine LeO.ite ?_ ?_
      | refine LeO.bind ?_ (fun _ => ?_)
set_option maxHeartbeats 8000000 in
set_option maxRecDepth 100000 in
theorem dobbyref14_Same.calls (k : Nat) (a0_0 : Bool) (a0_1 : Bool) (a0_2 : Bool) (a0_3 : ByteArray) (A0_4 : Option Addr) (c0_4 : Nat) (l0_4 : List (S182)) (A0_5 : Option Addr) (c0_5 : Nat) (l0_5 : List (S86)) (a1_0 : Bool) (a1_1 : Bool) (a1_2 : Bool) (a1_3 : ByteArray) (A1_4 : Option Addr) (c1_4 : Nat) (l1_4 : List (S182)) (A1_5 : Option Addr) (c1_5 : Nat) (l1_5 : List (S86)) (r : Bool) (w : World) (hr0_4 : Kd.C k182 w A0_4 l0_4.length l0_4) (hc0_4 : l0_4.length ≤ c0_4) (hr0_5 : Kd.C k86 w A0_5 l0_5.length l0_5) (hc0_5 : l0_5.length ≤ c0_5) (hr1_4 : Kd.C k182 w A1_4 l1_4.length l1_4) (hc1_4 : l1_4.length ≤ c1_4) (hr1_5 : Kd.C k86 w A1_5 l1_5.length l1_5) (hc1_5 : l1_5.length ≤ c1_5) (h : dobbyref14_Same.f k a0_0 a0_1 a0_2 a0_3 l0_4 l0_5 a1_0 a1_1 a1_2 a1_3 l1_4 l1_5 = some r) :
    Calls Tryz.prog 6 #[.agg #[.bool a0_0, .bool a0_1, .bool a0_2, .string a0_3, .slice A0_4 l0_4.length c0_4, .slice A0_5 l0_5.length c0_5], .agg #[.bool a1_0, .bool a1_1, .bool a1_2, .string a1_3, .slice A1_4 l1_4.length c1_4, .slice A1_5 l1_5.length c1_5]] w fun e w' => e = .returned (.bool r) ∧ Below w.heap.size w w' := by
  have hu32 := Tryz.underlying32
  have HR0_4 := Aside0.mk hr0_4
  have HC0_4 := Aside0.mk hc0_4
  clear hr0_4 hc0_4
  have HR0_5 := Aside0.mk hr0_5
  have HC0_5 := Aside0.mk hc0_5
  clear hr0_5 hc0_5
  have HR1_4 := Aside0.mk hr1_4
  have HC1_4 := Aside0.mk hc1_4
  clear hr1_4 hc1_4
  have HR1_5 := Aside0.mk hr1_5
  have HC1_5 := Aside0.mk hc1_5
  clear hr1_5 hc1_5
  have HB := Aside0.mk (Below.refl w.heap.size w)
  have H : (if (a0_0 != a1_0) = true then (dobbyref14_Same.j0 k true a0_0 a0_1 a0_2 a0_3 l0_4 l0_5 a1_0 a1_1 a1_2 a1_3 l1_4 l1_5) else (if (a0_1 != a1_1) = true then (dobbyref14_Same.j0 k true a0_0 a0_1 a0_2 a0_3 l0_4 l0_5 a1_0 a1_1 a1_2 a1_3 l1_4 l1_5) else (if (a0_2 != a1_2) = true then (dobbyref14_Same.j0 k true a0_0 a0_1 a0_2 a0_3 l0_4 l0_5 a1_0 a1_1 a1_2 a1_3 l1_4 l1_5) else (if a0_3.toList = a1_3.toList then ((dobbyref14_alike.f k l0_4 l1_4).bind fun t135 => (if t135 = true then (dobbyref14_Same.j0 k ((l0_5.length : Int) != (l1_5.length : Int)) a0_0 a0_1 a0_2 a0_3 l0_4 l0_5 a1_0 a1_1 a1_2 a1_3 l1_4 l1_5) else (dobbyref14_Same.j0 k true a0_0 a0_1 a0_2 a0_3 l0_4 l0_5 a1_0 a1_1 a1_2 a1_3 l1_4 l1_5))) else (dobbyref14_Same.j0 k true a0_0 a0_1 a0_2 a0_3 l0_4 l0_5 a1_0 a1_1 a1_2 a1_3 l1_4 l1_5))))) = some r := h
  clear h
  have HC3 := Aside0.mk H
  clear H
  go_enter Tryz.func6, Tryz.ntmps6
  go_upto_region 1 with (first | ((with_reducible refine gate_dst (N := 2) rfl ?_); (try (refine gate_guard (by rfl) ?_; dsimp only)); refine box_event ?hg (N := 2) ?hd (cs := #[.bool a0_0, .bool a0_1, .bool a0_2, .string a0_3, .slice A0_4 l0_4.length c0_4, .slice A0_5 l0_5.length c0_5]) (t := 32) ?hr ?_; (case hd => rfl); (case hg => rfl); (case hr => first | (go_simp; done) | (go_simp; rfl)); intro gb133 hg w4 hbox hb; have n0_ := Aside0.mk (below_step (by repeat (first | (with_reducible first | exact HB.out | apply below_alloc | apply pw_below_drewN | apply below_drew1) | exact HB.out)) hb); have n1_ := Aside0.mk (hbox); have n2_ := Aside0.mk ((by rw [hg]; exact (below_size (by repeat (first | (with_reducible first | exact HB.out | apply below_alloc | apply pw_below_drewN | apply below_drew1) | exact HB.out))) : w.heap.size ≤ gb133)); have n3_ := Aside0.mk ((by rw [hg]; exact (below_size (by repeat (first | (with_reducible first | exact HB.out | apply below_alloc | apply pw_below_drewN | apply below_drew1) | exact HB.out))) : w.heap.size ≤ gb133)); clear HB; have HB := n0_; have BK133 := n1_; have GW133 := n2_; have GE133 := n3_; clear n0_ n1_ n2_ n3_; clear hb hbox hg) | ((with_reducible refine gate_dst (N := 3) rfl ?_); (try (refine gate_guard (by rfl) ?_; dsimp only)); refine box_event ?hg (N := 3) ?hd (cs := #[.bool a1_0, .bool a1_1, .bool a1_2, .string a1_3, .slice A1_4 l1_4.length c1_4, .slice A1_5 l1_5.length c1_5]) (t := 32) ?hr ?_; (case hd => rfl); (case hg => rfl); (case hr => first | (go_simp; done) | (go_simp; rfl)); intro gb134 hg w5 hbox hb; have n0_ := Aside0.mk (blk_below (g := gb133) (o := .cells #[.bool a0_0, .bool a0_1, .bool a0_2, .string a0_3, .slice A0_4 l0_4.length c0_4, .slice A0_5 l0_5.length c0_5] 32 (0, 0)) (by (with_reducible repeat (first | refine blk_drewN ?_ _ | refine blk_drew ?_ | refine blk_alloc ?_ _)); exact BK133.out) hb); have n1_ := Aside0.mk (below_step (by repeat (first | (with_reducible first | exact HB.out | apply below_alloc | apply pw_below_drewN | apply below_drew1 | refine below_set ?_ GE133.out) | exact HB.out)) hb); have n2_ := Aside0.mk (hbox); have n3_ := Aside0.mk ((by rw [hg]; exact (below_size (by repeat (first | (with_reducible first | exact HB.out | apply below_alloc | apply pw_below_drewN | apply below_drew1 | refine below_set ?_ GE133.out) | exact HB.out))) : w.heap.size ≤ gb134)); have n4_ := Aside0.mk ((by rw [hg]; exact (below_size (by repeat (first | (with_reducible first | exact HB.out | apply below_alloc | apply pw_below_drewN | apply below_drew1 | refine below_set ?_ GE133.out) | exact HB.out))) : w.heap.size ≤ gb134)); have n5_ := Aside0.mk ((by rw [hg]; exact Nat.ne_of_lt (blk_lt (g := gb133) (o := .cells #[.bool a0_0, .bool a0_1, .bool a0_2, .string a0_3, .slice A0_4 l0_4.length c0_4, .slice A0_5 l0_5.length c0_5] 32 (0, 0)) (by (with_reducible repeat (first | refine blk_drewN ?_ _ | refine blk_drew ?_ | refine blk_alloc ?_ _)); exact BK133.out)) : gb133 ≠ gb134)); have n6_ := Aside0.mk ((by rw [hg]; exact Nat.ne_of_gt (blk_lt (g := gb133) (o := .cells #[.bool a0_0, .bool a0_1, .bool a0_2, .string a0_3, .slice A0_4 l0_4.length c0_4, .slice A0_5 l0_5.length c0_5] 32 (0, 0)) (by (with_reducible repeat (first | refine blk_drewN ?_ _ | refine blk_drew ?_ | refine blk_alloc ?_ _)); exact BK133.out)) : gb134 ≠ gb133)); clear BK133; clear HB; have BK133 := n0_; have HB := n1_; have BK134 := n2_; have GW134 := n3_; have GE134 := n4_; have NB133_134 := n5_; have NB134_133 := n6_; clear n0_ n1_ n2_ n3_ n4_ n5_ n6_; clear hb hbox hg))
  repeat (go_quiet (first | ((with_reducible refine gate_dst (N := 2) rfl ?_); (try (refine gate_guard (by rfl) ?_; dsimp only)); refine box_event ?hg (N := 2) ?hd (cs := #[.bool a0_0, .bool a0_1, .bool a0_2, .string a0_3, .slice A0_4 l0_4.length c0_4, .slice A0_5 l0_5.length c0_5]) (t := 32) ?hr ?_; (case hd => rfl); (case hg => rfl); (case hr => first | (go_simp; done) | (go_simp; rfl)); intro gb133 hg w4 hbox hb; have n0_ := Aside0.mk (below_step (by repeat (first | (with_reducible first | exact HB.out | apply below_alloc | apply pw_below_drewN | apply below_drew1) | exact HB.out)) hb); have n1_ := Aside0.mk (hbox); have n2_ := Aside0.mk ((by rw [hg]; exact (below_size (by repeat (first | (with_reducible first | exact HB.out | apply below_alloc | apply pw_below_drewN | apply below_drew1) | exact HB.out))) : w.heap.size ≤ gb133)); have n3_ := Aside0.mk ((by rw [hg]; exact (below_size (by repeat (first | (with_reducible first | exact HB.out | apply below_alloc | apply pw_below_drewN | apply below_drew1) | exact HB.out))) : w.heap.size ≤ gb133)); clear HB; have HB := n0_; have BK133 := n1_; have GW133 := n2_; have GE133 := n3_; clear n0_ n1_ n2_ n3_; clear hb hbox hg) | ((with_reducible refine gate_dst (N := 3) rfl ?_); (try (refine gate_guard (by rfl) ?_; dsimp only)); refine box_event ?hg (N := 3) ?hd (cs := #[.bool a1_0, .bool a1_1, .bool a1_2, .string a1_3, .slice A1_4 l1_4.length c1_4, .slice A1_5 l1_5.length c1_5]) (t := 32) ?hr ?_; (case hd => rfl); (case hg => rfl); (case hr => first | (go_simp; done) | (go_simp; rfl)); intro gb134 hg w5 hbox hb; have n0_ := Aside0.mk (blk_below (g := gb133) (o := .cells #[.bool a0_0, .bool a0_1, .bool a0_2, .string a0_3, .slice A0_4 l0_4.length c0_4, .slice A0_5 l0_5.length c0_5] 32 (0, 0)) (by (with_reducible repeat (first | refine blk_drewN ?_ _ | refine blk_drew ?_ | refine blk_alloc ?_ _)); exact BK133.out) hb); have n1_ := Aside0.mk (below_step (by repeat (first | (with_reducible first | exact HB.out | apply below_alloc | apply pw_below_drewN | apply below_drew1 | refine below_set ?_ GE133.out) | exact HB.out)) hb); have n2_ := Aside0.mk (hbox); have n3_ := Aside0.mk ((by rw [hg]; exact (below_size (by repeat (first | (with_reducible first | exact HB.out | apply below_alloc | apply pw_below_drewN | apply below_drew1 | refine below_set ?_ GE133.out) | exact HB.out))) : w.heap.size ≤ gb134)); have n4_ := Aside0.mk ((by rw [hg]; exact (below_size (by repeat (first | (with_reducible first | exact HB.out | apply below_alloc | apply pw_below_drewN | apply below_drew1 | refine below_set ?_ GE133.out) | exact HB.out))) : w.heap.size ≤ gb134)); have n5_ := Aside0.mk ((by rw [hg]; exact Nat.ne_of_lt (blk_lt (g := gb133) (o := .cells #[.bool a0_0, .bool a0_1, .bool a0_2, .string a0_3, .slice A0_4 l0_4.length c0_4, .slice A0_5 l0_5.length c0_5] 32 (0, 0)) (by (with_reducible repeat (first | refine blk_drewN ?_ _ | refine blk_drew ?_ | refine blk_alloc ?_ _)); exact BK133.out)) : gb133 ≠ gb134)); have n6_ := Aside0.mk ((by rw [hg]; exact Nat.ne_of_gt (blk_lt (g := gb133) (o := .cells #[.bool a0_0, .bool a0_1, .bool a0_2, .string a0_3, .slice A0_4 l0_4.length c0_4, .slice A0_5 l0_5.length c0_5] 32 (0, 0)) (by (with_reducible repeat (first | refine blk_drewN ?_ _ | refine blk_drew ?_ | refine blk_alloc ?_ _)); exact BK133.out)) : gb134 ≠ gb133)); clear BK133; clear HB; have BK133 := n0_; have HB := n1_; have BK134 := n2_; have GW134 := n3_; have GE134 := n4_; have NB133_134 := n5_; have NB134_133 := n6_; clear n0_ n1_ n2_ n3_ n4_ n5_ n6_; clear hb hbox hg)); go_upto_region 1 with (first | ((with_reducible refine gate_dst (N := 2) rfl ?_); (try (refine gate_guard (by rfl) ?_; dsimp only)); refine box_event ?hg (N := 2) ?hd (cs := #[.bool a0_0, .bool a0_1, .bool a0_2, .string a0_3, .slice A0_4 l0_4.length c0_4, .slice A0_5 l0_5.length c0_5]) (t := 32) ?hr ?_; (case hd => rfl); (case hg => rfl); (case hr => first | (go_simp; done) | (go_simp; rfl)); intro gb133 hg w4 hbox hb; have n0_ := Aside0.mk (below_step (by repeat (first | (with_reducible first | exact HB.out | apply below_alloc | apply pw_below_drewN | apply below_drew1) | exact HB.out)) hb); have n1_ := Aside0.mk (hbox); have n2_ := Aside0.mk ((by rw [hg]; exact (below_size (by repeat (first | (with_reducible first | exact HB.out | apply below_alloc | apply pw_below_drewN | apply below_drew1) | exact HB.out))) : w.heap.size ≤ gb133)); have n3_ := Aside0.mk ((by rw [hg]; exact (below_size (by repeat (first | (with_reducible first | exact HB.out | apply below_alloc | apply pw_below_drewN | apply below_drew1) | exact HB.out))) : w.heap.size ≤ gb133)); clear HB; have HB := n0_; have BK133 := n1_; have GW133 := n2_; have GE133 := n3_; clear n0_ n1_ n2_ n3_; clear hb hbox hg) | ((with_reducible refine gate_dst (N := 3) rfl ?_); (try (refine gate_guard (by rfl) ?_; dsimp only)); refine box_event ?hg (N := 3) ?hd (cs := #[.bool a1_0, .bool a1_1, .bool a1_2, .string a1_3, .slice A1_4 l1_4.length c1_4, .slice A1_5 l1_5.length c1_5]) (t := 32) ?hr ?_; (case hd => rfl); (case hg => rfl); (case hr => first | (go_simp; done) | (go_simp; rfl)); intro gb134 hg w5 hbox hb; have n0_ := Aside0.mk (blk_below (g := gb133) (o := .cells #[.bool a0_0, .bool a0_1, .bool a0_2, .string a0_3, .slice A0_4 l0_4.length c0_4, .slice A0_5 l0_5.length c0_5] 32 (0, 0)) (by (with_reducible repeat (first | refine blk_drewN ?_ _ | refine blk_drew ?_ | refine blk_alloc ?_ _)); exact BK133.out) hb); have n1_ := Aside0.mk (below_step (by repeat (first | (with_reducible first | exact HB.out | apply below_alloc | apply pw_below_drewN | apply below_drew1 | refine below_set ?_ GE133.out) | exact HB.out)) hb); have n2_ := Aside0.mk (hbox); have n3_ := Aside0.mk ((by rw [hg]; exact (below_size (by repeat (first | (with_reducible first | exact HB.out | apply below_alloc | apply pw_below_drewN | apply below_drew1 | refine below_set ?_ GE133.out) | exact HB.out))) : w.heap.size ≤ gb134)); have n4_ := Aside0.mk ((by rw [hg]; exact (below_size (by repeat (first | (with_reducible first | exact HB.out | apply below_alloc | apply pw_below_drewN | apply below_drew1 | refine below_set ?_ GE133.out) | exact HB.out))) : w.heap.size ≤ gb134)); have n5_ := Aside0.mk ((by rw [hg]; exact Nat.ne_of_lt (blk_lt (g := gb133) (o := .cells #[.bool a0_0, .bool a0_1, .bool a0_2, .string a0_3, .slice A0_4 l0_4.length c0_4, .slice A0_5 l0_5.length c0_5] 32 (0, 0)) (by (with_reducible repeat (first | refine blk_drewN ?_ _ | refine blk_drew ?_ | refine blk_alloc ?_ _)); exact BK133.out)) : gb133 ≠ gb134)); have n6_ := Aside0.mk ((by rw [hg]; exact Nat.ne_of_gt (blk_lt (g := gb133) (o := .cells #[.bool a0_0, .bool a0_1, .bool a0_2, .string a0_3, .slice A0_4 l0_4.length c0_4, .slice A0_5 l0_5.length c0_5] 32 (0, 0)) (by (with_reducible repeat (first | refine blk_drewN ?_ _ | refine blk_drew ?_ | refine blk_alloc ?_ _)); exact BK133.out)) : gb134 ≠ gb133)); clear BK133; clear HB; have BK133 := n0_; have HB := n1_; have BK134 := n2_; have GW134 := n3_; have GE134 := n4_; have NB133_134 := n5_; have NB134_133 := n6_; clear n0_ n1_ n2_ n3_ n4_ n5_ n6_; clear hb hbox hg)))
  (try simp only [Act.put, List.setIfInBounds_toArray, List.set_cons_zero, List.set_cons_succ])
  go_cut [48] (fun v48 wc => ∃ (kq : Nat) (x48_2 : Bool), v48 = .bool x48_2 ∧ Aside0 (dobbyref14_Same.j0 kq x48_2 a0_0 a0_1 a0_2 a0_3 l0_4 l0_5 a1_0 a1_1 a1_2 a1_3 l1_4 l1_5 = some r) ∧ Aside0 (kq ≤ k) ∧ Aside0 (wc.heap[gb133]? = some (.cells #[.bool a0_0, .bool a0_1, .bool a0_2, .string a0_3, (.slice A0_4 l0_4.length c0_4), (.slice A0_5 l0_5.length c0_5)] 32 (0, 0))) ∧ Aside0 (wc.heap[gb134]? = some (.cells #[.bool a1_0, .bool a1_1, .bool a1_2, .string a1_3, (.slice A1_4 l1_4.length c1_4), (.slice A1_5 l1_5.length c1_5)] 32 (0, 0))) ∧ Aside0 (Below w.heap.size w wc))
  case first =>
    have H := HC3.out
    clear HC3
    by_cases c6 : (a0_0 != a1_0) = true
    · rw [if_pos c6] at H
      have c6b0 : (a0_0 != a1_0) = true := c6
      (try (have c6b1 : decide (a0_0 = a1_0) = false := by simpa using c6))
      (try (have c6b2 : (a0_0 == a1_0) = false := by simpa using c6))
      (try (have c6b3 : ¬ (a0_0 = a1_0) := by simpa using c6))
      clear c6
      (first | rw [c6b0] | (simp only [i64_w, i32_w]; rw [c6b0]) | skip)
      have H' := Aside0.mk H
      clear H
      have hnb7 := NB133_134.out
      have hnc7 := NB134_133.out
      have hcz8_0 : w5.cell? ⟨gb133, 0, none⟩ = some (.bool a0_0) := (blk_cell BK133.out 0).trans rfl
      have hcz8_1 : w5.cell? ⟨gb133, 1, none⟩ = some (.bool a0_1) := (blk_cell BK133.out 1).trans rfl
      have hcz8_2 : w5.cell? ⟨gb133, 2, none⟩ = some (.bool a0_2) := (blk_cell BK133.out 2).trans rfl
      have hcz8_3 : w5.cell? ⟨gb133, 3, none⟩ = some (.string a0_3) := (blk_cell BK133.out 3).trans rfl
      have hcz8_4 : w5.cell? ⟨gb133, 4, none⟩ = some (.slice A0_4 l0_4.length c0_4) := (blk_cell BK133.out 4).trans rfl
      have hcz8_5 : w5.cell? ⟨gb133, 5, none⟩ = some (.slice A0_5 l0_5.length c0_5) := (blk_cell BK133.out 5).trans rfl
      have hfz8_0 := blk_frozen BK133.out 0
      have hfz8_1 := blk_frozen BK133.out 1
      have hfz8_2 := blk_frozen BK133.out 2
      have hfz8_3 := blk_frozen BK133.out 3
      have hfz8_4 := blk_frozen BK133.out 4
      have hfz8_5 := blk_frozen BK133.out 5
      have hcz9_0 : w5.cell? ⟨gb134, 0, none⟩ = some (.bool a1_0) := (blk_cell BK134.out 0).trans rfl
      have hcz9_1 : w5.cell? ⟨gb134, 1, none⟩ = some (.bool a1_1) := (blk_cell BK134.out 1).trans rfl
      have hcz9_2 : w5.cell? ⟨gb134, 2, none⟩ = some (.bool a1_2) := (blk_cell BK134.out 2).trans rfl
      have hcz9_3 : w5.cell? ⟨gb134, 3, none⟩ = some (.string a1_3) := (blk_cell BK134.out 3).trans rfl
      have hcz9_4 : w5.cell? ⟨gb134, 4, none⟩ = some (.slice A1_4 l1_4.length c1_4) := (blk_cell BK134.out 4).trans rfl
      have hcz9_5 : w5.cell? ⟨gb134, 5, none⟩ = some (.slice A1_5 l1_5.length c1_5) := (blk_cell BK134.out 5).trans rfl
      have hfz9_0 := blk_frozen BK134.out 0
      have hfz9_1 := blk_frozen BK134.out 1
      have hfz9_2 := blk_frozen BK134.out 2
      have hfz9_3 := blk_frozen BK134.out 3
      have hfz9_4 := blk_frozen BK134.out 4
      have hfz9_5 := blk_frozen BK134.out 5
      go_wp2
      repeat (go_quiet (fail); try go_wp2)
      go_meet
      case rel => exact ⟨_, (true), (by first | rfl | (simp; done) | (simp [*]; done)), H', ⟨by first | omega | exact Nat.le_refl _⟩, ⟨by (with_reducible repeat (first | refine blk_drewN ?_ _ | refine blk_drew ?_ | refine blk_alloc ?_ _)); exact BK133.out⟩, ⟨by (with_reducible repeat (first | refine blk_drewN ?_ _ | refine blk_drew ?_ | refine blk_alloc ?_ _)); exact BK134.out⟩, ⟨by repeat (first | (with_reducible first | exact HB.out | apply below_alloc | apply pw_below_drewN | apply below_drew1 | refine below_set ?_ GE133.out | refine below_set ?_ GE134.out) | exact HB.out)⟩⟩
    · rw [if_neg c6] at H
      have c6b0 : (a0_0 != a1_0) = false := by simpa using c6
      (try (have c6b1 : decide (a0_0 = a1_0) = true := by simpa using c6))
      (try (have c6b2 : (a0_0 == a1_0) = true := by simpa using c6))
      clear c6
      (first | rw [c6b0] | (simp only [i64_w, i32_w]; rw [c6b0]) | skip)
      by_cases c10 : (a0_1 != a1_1) = true
      · rw [if_pos c10] at H
        have c10b0 : (a0_1 != a1_1) = true := c10
        (try (have c10b1 : decide (a0_1 = a1_1) = false := by simpa using c10))
        (try (have c10b2 : (a0_1 == a1_1) = false := by simpa using c10))
        (try (have c10b3 : ¬ (a0_1 = a1_1) := by simpa using c10))
        clear c10
        have H' := Aside0.mk H
        clear H
        have hnb11 := NB133_134.out
        have hnc11 := NB134_133.out
        have hcz12_0 : w5.cell? ⟨gb133, 0, none⟩ = some (.bool a0_0) := (blk_cell BK133.out 0).trans rfl
        have hcz12_1 : w5.cell? ⟨gb133, 1, none⟩ = some (.bool a0_1) := (blk_cell BK133.out 1).trans rfl
        have hcz12_2 : w5.cell? ⟨gb133, 2, none⟩ = some (.bool a0_2) := (blk_cell BK133.out 2).trans rfl
        have hcz12_3 : w5.cell? ⟨gb133, 3, none⟩ = some (.string a0_3) := (blk_cell BK133.out 3).trans rfl
        have hcz12_4 : w5.cell? ⟨gb133, 4, none⟩ = some (.slice A0_4 l0_4.length c0_4) := (blk_cell BK133.out 4).trans rfl
        have hcz12_5 : w5.cell? ⟨gb133, 5, none⟩ = some (.slice A0_5 l0_5.length c0_5) := (blk_cell BK133.out 5).trans rfl
        have hfz12_0 := blk_frozen BK133.out 0
        have hfz12_1 := blk_frozen BK133.out 1
        have hfz12_2 := blk_frozen BK133.out 2
        have hfz12_3 := blk_frozen BK133.out 3
        have hfz12_4 := blk_frozen BK133.out 4
        have hfz12_5 := blk_frozen BK133.out 5
        have hcz13_0 : w5.cell? ⟨gb134, 0, none⟩ = some (.bool a1_0) := (blk_cell BK134.out 0).trans rfl
        have hcz13_1 : w5.cell? ⟨gb134, 1, none⟩ = some (.bool a1_1) := (blk_cell BK134.out 1).trans rfl
        have hcz13_2 : w5.cell? ⟨gb134, 2, none⟩ = some (.bool a1_2) := (blk_cell BK134.out 2).trans rfl
        have hcz13_3 : w5.cell? ⟨gb134, 3, none⟩ = some (.string a1_3) := (blk_cell BK134.out 3).trans rfl
        have hcz13_4 : w5.cell? ⟨gb134, 4, none⟩ = some (.slice A1_4 l1_4.length c1_4) := (blk_cell BK134.out 4).trans rfl
        have hcz13_5 : w5.cell? ⟨gb134, 5, none⟩ = some (.slice A1_5 l1_5.length c1_5) := (blk_cell BK134.out 5).trans rfl
        have hfz13_0 := blk_frozen BK134.out 0
        have hfz13_1 := blk_frozen BK134.out 1
        have hfz13_2 := blk_frozen BK134.out 2
        have hfz13_3 := blk_frozen BK134.out 3
        have hfz13_4 := blk_frozen BK134.out 4
        have hfz13_5 := blk_frozen BK134.out 5
        go_wp2
        repeat (go_quiet (fail); try go_wp2)
        go_meet
        case rel => exact ⟨_, (true), (by first | rfl | (simp; done) | (simp [*]; done)), H', ⟨by first | omega | exact Nat.le_refl _⟩, ⟨by (with_reducible repeat (first | refine blk_drewN ?_ _ | refine blk_drew ?_ | refine blk_alloc ?_ _)); exact BK133.out⟩, ⟨by (with_reducible repeat (first | refine blk_drewN ?_ _ | refine blk_drew ?_ | refine blk_alloc ?_ _)); exact BK134.out⟩, ⟨by repeat (first | (with_reducible first | exact HB.out | apply below_alloc | apply pw_below_drewN | apply below_drew1 | refine below_set ?_ GE133.out | refine below_set ?_ GE134.out) | exact HB.out)⟩⟩
      · rw [if_neg c10] at H
        have c10b0 : (a0_1 != a1_1) = false := by simpa using c10
        (try (have c10b1 : decide (a0_1 = a1_1) = true := by simpa using c10))
        (try (have c10b2 : (a0_1 == a1_1) = true := by simpa using c10))
        clear c10
        by_cases c14 : (a0_2 != a1_2) = true
        · rw [if_pos c14] at H
          have c14b0 : (a0_2 != a1_2) = true := c14
          (try (have c14b1 : decide (a0_2 = a1_2) = false := by simpa using c14))
          (try (have c14b2 : (a0_2 == a1_2) = false := by simpa using c14))
          (try (have c14b3 : ¬ (a0_2 = a1_2) := by simpa using c14))
          clear c14
          have H' := Aside0.mk H
          clear H
          have hnb15 := NB133_134.out
          have hnc15 := NB134_133.out
          have hcz16_0 : w5.cell? ⟨gb133, 0, none⟩ = some (.bool a0_0) := (blk_cell BK133.out 0).trans rfl
          have hcz16_1 : w5.cell? ⟨gb133, 1, none⟩ = some (.bool a0_1) := (blk_cell BK133.out 1).trans rfl
          have hcz16_2 : w5.cell? ⟨gb133, 2, none⟩ = some (.bool a0_2) := (blk_cell BK133.out 2).trans rfl
          have hcz16_3 : w5.cell? ⟨gb133, 3, none⟩ = some (.string a0_3) := (blk_cell BK133.out 3).trans rfl
          have hcz16_4 : w5.cell? ⟨gb133, 4, none⟩ = some (.slice A0_4 l0_4.length c0_4) := (blk_cell BK133.out 4).trans rfl
          have hcz16_5 : w5.cell? ⟨gb133, 5, none⟩ = some (.slice A0_5 l0_5.length c0_5) := (blk_cell BK133.out 5).trans rfl
          have hfz16_0 := blk_frozen BK133.out 0
          have hfz16_1 := blk_frozen BK133.out 1
          have hfz16_2 := blk_frozen BK133.out 2
          have hfz16_3 := blk_frozen BK133.out 3
          have hfz16_4 := blk_frozen BK133.out 4
          have hfz16_5 := blk_frozen BK133.out 5
          have hcz17_0 : w5.cell? ⟨gb134, 0, none⟩ = some (.bool a1_0) := (blk_cell BK134.out 0).trans rfl
          have hcz17_1 : w5.cell? ⟨gb134, 1, none⟩ = some (.bool a1_1) := (blk_cell BK134.out 1).trans rfl
          have hcz17_2 : w5.cell? ⟨gb134, 2, none⟩ = some (.bool a1_2) := (blk_cell BK134.out 2).trans rfl
          have hcz17_3 : w5.cell? ⟨gb134, 3, none⟩ = some (.string a1_3) := (blk_cell BK134.out 3).trans rfl
          have hcz17_4 : w5.cell? ⟨gb134, 4, none⟩ = some (.slice A1_4 l1_4.length c1_4) := (blk_cell BK134.out 4).trans rfl
          have hcz17_5 : w5.cell? ⟨gb134, 5, none⟩ = some (.slice A1_5 l1_5.length c1_5) := (blk_cell BK134.out 5).trans rfl
          have hfz17_0 := blk_frozen BK134.out 0
          have hfz17_1 := blk_frozen BK134.out 1
          have hfz17_2 := blk_frozen BK134.out 2
          have hfz17_3 := blk_frozen BK134.out 3
          have hfz17_4 := blk_frozen BK134.out 4
          have hfz17_5 := blk_frozen BK134.out 5
          go_wp2
          repeat (go_quiet (fail); try go_wp2)
          go_meet
          case rel => exact ⟨_, (true), (by first | rfl | (simp; done) | (simp [*]; done)), H', ⟨by first | omega | exact Nat.le_refl _⟩, ⟨by (with_reducible repeat (first | refine blk_drewN ?_ _ | refine blk_drew ?_ | refine blk_alloc ?_ _)); exact BK133.out⟩, ⟨by (with_reducible repeat (first | refine blk_drewN ?_ _ | refine blk_drew ?_ | refine blk_alloc ?_ _)); exact BK134.out⟩, ⟨by repeat (first | (with_reducible first | exact HB.out | apply below_alloc | apply pw_below_drewN | apply below_drew1 | refine below_set ?_ GE133.out | refine below_set ?_ GE134.out) | exact HB.out)⟩⟩
        · rw [if_neg c14] at H
          have c14b0 : (a0_2 != a1_2) = false := by simpa using c14
          (try (have c14b1 : decide (a0_2 = a1_2) = true := by simpa using c14))
          (try (have c14b2 : (a0_2 == a1_2) = true := by simpa using c14))
          clear c14
          by_cases c18 : a0_3.toList = a1_3.toList
          · rw [if_pos c18] at H
            have c18b0 : (a0_3.toList == a1_3.toList) = true := beq_iff_eq.mpr c18
            have c18b1 : (a0_3.toList != a1_3.toList) = false := bne_eq_false_iff_eq.mpr c18
            clear c18
            replace H := Option.bind_eq_some_iff.mp H
            obtain ⟨t135, A190, H⟩ := H
            replace H : (if t135 = true then (dobbyref14_Same.j0 k ((l0_5.length : Int) != (l1_5.length : Int)) a0_0 a0_1 a0_2 a0_3 l0_4 l0_5 a1_0 a1_1 a1_2 a1_3 l1_4 l1_5) else (dobbyref14_Same.j0 k true a0_0 a0_1 a0_2 a0_3 l0_4 l0_5 a1_0 a1_1 a1_2 a1_3 l1_4 l1_5)) = some r := H
            have A19 := Aside0.mk A190
            clear A190
            by_cases c20 : t135 = true
            · subst c20
              have H1 : (dobbyref14_Same.j0 k ((l0_5.length : Int) != (l1_5.length : Int)) a0_0 a0_1 a0_2 a0_3 l0_4 l0_5 a1_0 a1_1 a1_2 a1_3 l1_4 l1_5) = some r := by rw [if_pos rfl] at H; exact H
              clear H
              have H := H1
              clear H1
              have H' := Aside0.mk H
              clear H
              have hnb21 := NB133_134.out
              have hnc21 := NB134_133.out
              have hcz22_0 : w5.cell? ⟨gb133, 0, none⟩ = some (.bool a0_0) := (blk_cell BK133.out 0).trans rfl
              have hcz22_1 : w5.cell? ⟨gb133, 1, none⟩ = some (.bool a0_1) := (blk_cell BK133.out 1).trans rfl
              have hcz22_2 : w5.cell? ⟨gb133, 2, none⟩ = some (.bool a0_2) := (blk_cell BK133.out 2).trans rfl
              have hcz22_3 : w5.cell? ⟨gb133, 3, none⟩ = some (.string a0_3) := (blk_cell BK133.out 3).trans rfl
              have hcz22_4 : w5.cell? ⟨gb133, 4, none⟩ = some (.slice A0_4 l0_4.length c0_4) := (blk_cell BK133.out 4).trans rfl
              have hcz22_5 : w5.cell? ⟨gb133, 5, none⟩ = some (.slice A0_5 l0_5.length c0_5) := (blk_cell BK133.out 5).trans rfl
              have hfz22_0 := blk_frozen BK133.out 0
              have hfz22_1 := blk_frozen BK133.out 1
              have hfz22_2 := blk_frozen BK133.out 2
              have hfz22_3 := blk_frozen BK133.out 3
              have hfz22_4 := blk_frozen BK133.out 4
              have hfz22_5 := blk_frozen BK133.out 5
              have hcz23_0 : w5.cell? ⟨gb134, 0, none⟩ = some (.bool a1_0) := (blk_cell BK134.out 0).trans rfl
              have hcz23_1 : w5.cell? ⟨gb134, 1, none⟩ = some (.bool a1_1) := (blk_cell BK134.out 1).trans rfl
              have hcz23_2 : w5.cell? ⟨gb134, 2, none⟩ = some (.bool a1_2) := (blk_cell BK134.out 2).trans rfl
              have hcz23_3 : w5.cell? ⟨gb134, 3, none⟩ = some (.string a1_3) := (blk_cell BK134.out 3).trans rfl
              have hcz23_4 : w5.cell? ⟨gb134, 4, none⟩ = some (.slice A1_4 l1_4.length c1_4) := (blk_cell BK134.out 4).trans rfl
              have hcz23_5 : w5.cell? ⟨gb134, 5, none⟩ = some (.slice A1_5 l1_5.length c1_5) := (blk_cell BK134.out 5).trans rfl
              have hfz23_0 := blk_frozen BK134.out 0
              have hfz23_1 := blk_frozen BK134.out 1
              have hfz23_2 := blk_frozen BK134.out 2
              have hfz23_3 := blk_frozen BK134.out 3
              have hfz23_4 := blk_frozen BK134.out 4
              have hfz23_5 := blk_frozen BK134.out 5
              go_wp2_with (first | (go_at_call 22; (with_reducible refine (dobbyref14_alike.calls k _ _ l0_4 _ _ l1_4 true _ ?side1 ?side2 ?side3 ?side4 A19.out).mono ?_); (case side1 => repeat (first | exact (Kd.C_below HR0_4.out HB.out) | (with_reducible refine Kd.C_alloc ?_ _) | (with_reducible refine Kd.C_drewN ?_ _) | (with_reducible refine Kd.C_drew ?_))); (case side2 => exact HC0_4.out); (case side3 => repeat (first | exact (Kd.C_below HR1_4.out HB.out) | (with_reducible refine Kd.C_alloc ?_ _) | (with_reducible refine Kd.C_drewN ?_ _) | (with_reducible refine Kd.C_drew ?_))); (case side4 => exact HC1_4.out); rintro e w' ⟨rfl, ⟨nd, rfl⟩⟩; (try first | exact ⟨rfl, _, World.drewN_drewN _ _ _⟩ | exact ⟨rfl, _, Eq.trans (World.drewN_drewN _ _ _) (congrArg (World.drewN _) (Nat.add_assoc _ _ _))⟩)))
              repeat (go_quiet (first | (go_at_call 22; (with_reducible refine (dobbyref14_alike.calls k _ _ l0_4 _ _ l1_4 true _ ?side1 ?side2 ?side3 ?side4 A19.out).mono ?_); (case side1 => repeat (first | exact (Kd.C_below HR0_4.out HB.out) | (with_reducible refine Kd.C_alloc ?_ _) | (with_reducible refine Kd.C_drewN ?_ _) | (with_reducible refine Kd.C_drew ?_))); (case side2 => exact HC0_4.out); (case side3 => repeat (first | exact (Kd.C_below HR1_4.out HB.out) | (with_reducible refine Kd.C_alloc ?_ _) | (with_reducible refine Kd.C_drewN ?_ _) | (with_reducible refine Kd.C_drew ?_))); (case side4 => exact HC1_4.out); rintro e w' ⟨rfl, ⟨nd, rfl⟩⟩; (try first | exact ⟨rfl, _, World.drewN_drewN _ _ _⟩ | exact ⟨rfl, _, Eq.trans (World.drewN_drewN _ _ _) (congrArg (World.drewN _) (Nat.add_assoc _ _ _))⟩))); try go_wp2_with (first | (go_at_call 22; (with_reducible refine (dobbyref14_alike.calls k _ _ l0_4 _ _ l1_4 true _ ?side1 ?side2 ?side3 ?side4 A19.out).mono ?_); (case side1 => repeat (first | exact (Kd.C_below HR0_4.out HB.out) | (with_reducible refine Kd.C_alloc ?_ _) | (with_reducible refine Kd.C_drewN ?_ _) | (with_reducible refine Kd.C_drew ?_))); (case side2 => exact HC0_4.out); (case side3 => repeat (first | exact (Kd.C_below HR1_4.out HB.out) | (with_reducible refine Kd.C_alloc ?_ _) | (with_reducible refine Kd.C_drewN ?_ _) | (with_reducible refine Kd.C_drew ?_))); (case side4 => exact HC1_4.out); rintro e w' ⟨rfl, ⟨nd, rfl⟩⟩; (try first | exact ⟨rfl, _, World.drewN_drewN _ _ _⟩ | exact ⟨rfl, _, Eq.trans (World.drewN_drewN _ _ _) (congrArg (World.drewN _) (Nat.add_assoc _ _ _))⟩))))
              go_meet
              case rel => exact ⟨_, (((l0_5.length : Int) != (l1_5.length : Int))), (by first | rfl | (simp; done) | (simp [*]; done)), H', ⟨by first | omega | exact Nat.le_refl _⟩, ⟨by (with_reducible repeat (first | refine blk_drewN ?_ _ | refine blk_drew ?_ | refine blk_alloc ?_ _)); exact BK133.out⟩, ⟨by (with_reducible repeat (first | refine blk_drewN ?_ _ | refine blk_drew ?_ | refine blk_alloc ?_ _)); exact BK134.out⟩, ⟨by repeat (first | (with_reducible first | exact HB.out | apply below_alloc | apply pw_below_drewN | apply below_drew1 | refine below_set ?_ GE133.out | refine below_set ?_ GE134.out) | exact HB.out)⟩⟩
            · replace c20 := Bool.eq_false_iff.mpr c20
              subst c20
              have H1 : (dobbyref14_Same.j0 k true a0_0 a0_1 a0_2 a0_3 l0_4 l0_5 a1_0 a1_1 a1_2 a1_3 l1_4 l1_5) = some r := by rw [if_neg (show ¬ (false = true) by decide)] at H; exact H
              clear H
              have H := H1
              clear H1
              have H' := Aside0.mk H
              clear H
              have hnb24 := NB133_134.out
              have hnc24 := NB134_133.out
              have hcz25_0 : w5.cell? ⟨gb133, 0, none⟩ = some (.bool a0_0) := (blk_cell BK133.out 0).trans rfl
              have hcz25_1 : w5.cell? ⟨gb133, 1, none⟩ = some (.bool a0_1) := (blk_cell BK133.out 1).trans rfl
              have hcz25_2 : w5.cell? ⟨gb133, 2, none⟩ = some (.bool a0_2) := (blk_cell BK133.out 2).trans rfl
              have hcz25_3 : w5.cell? ⟨gb133, 3, none⟩ = some (.string a0_3) := (blk_cell BK133.out 3).trans rfl
              have hcz25_4 : w5.cell? ⟨gb133, 4, none⟩ = some (.slice A0_4 l0_4.length c0_4) := (blk_cell BK133.out 4).trans rfl
              have hcz25_5 : w5.cell? ⟨gb133, 5, none⟩ = some (.slice A0_5 l0_5.length c0_5) := (blk_cell BK133.out 5).trans rfl
              have hfz25_0 := blk_frozen BK133.out 0
              have hfz25_1 := blk_frozen BK133.out 1
              have hfz25_2 := blk_frozen BK133.out 2
              have hfz25_3 := blk_frozen BK133.out 3
              have hfz25_4 := blk_frozen BK133.out 4
              have hfz25_5 := blk_frozen BK133.out 5
              have hcz26_0 : w5.cell? ⟨gb134, 0, none⟩ = some (.bool a1_0) := (blk_cell BK134.out 0).trans rfl
              have hcz26_1 : w5.cell? ⟨gb134, 1, none⟩ = some (.bool a1_1) := (blk_cell BK134.out 1).trans rfl
              have hcz26_2 : w5.cell? ⟨gb134, 2, none⟩ = some (.bool a1_2) := (blk_cell BK134.out 2).trans rfl
              have hcz26_3 : w5.cell? ⟨gb134, 3, none⟩ = some (.string a1_3) := (blk_cell BK134.out 3).trans rfl
              have hcz26_4 : w5.cell? ⟨gb134, 4, none⟩ = some (.slice A1_4 l1_4.length c1_4) := (blk_cell BK134.out 4).trans rfl
              have hcz26_5 : w5.cell? ⟨gb134, 5, none⟩ = some (.slice A1_5 l1_5.length c1_5) := (blk_cell BK134.out 5).trans rfl
              have hfz26_0 := blk_frozen BK134.out 0
              have hfz26_1 := blk_frozen BK134.out 1
              have hfz26_2 := blk_frozen BK134.out 2
              have hfz26_3 := blk_frozen BK134.out 3
              have hfz26_4 := blk_frozen BK134.out 4
              have hfz26_5 := blk_frozen BK134.out 5
              go_wp2_with (first | (go_at_call 22; (with_reducible refine (dobbyref14_alike.calls k _ _ l0_4 _ _ l1_4 false _ ?side1 ?side2 ?side3 ?side4 A19.out).mono ?_); (case side1 => repeat (first | exact (Kd.C_below HR0_4.out HB.out) | (with_reducible refine Kd.C_alloc ?_ _) | (with_reducible refine Kd.C_drewN ?_ _) | (with_reducible refine Kd.C_drew ?_))); (case side2 => exact HC0_4.out); (case side3 => repeat (first | exact (Kd.C_below HR1_4.out HB.out) | (with_reducible refine Kd.C_alloc ?_ _) | (with_reducible refine Kd.C_drewN ?_ _) | (with_reducible refine Kd.C_drew ?_))); (case side4 => exact HC1_4.out); rintro e w' ⟨rfl, ⟨nd, rfl⟩⟩; (try first | exact ⟨rfl, _, World.drewN_drewN _ _ _⟩ | exact ⟨rfl, _, Eq.trans (World.drewN_drewN _ _ _) (congrArg (World.drewN _) (Nat.add_assoc _ _ _))⟩)))
              repeat (go_quiet (first | (go_at_call 22; (with_reducible refine (dobbyref14_alike.calls k _ _ l0_4 _ _ l1_4 false _ ?side1 ?side2 ?side3 ?side4 A19.out).mono ?_); (case side1 => repeat (first | exact (Kd.C_below HR0_4.out HB.out) | (with_reducible refine Kd.C_alloc ?_ _) | (with_reducible refine Kd.C_drewN ?_ _) | (with_reducible refine Kd.C_drew ?_))); (case side2 => exact HC0_4.out); (case side3 => repeat (first | exact (Kd.C_below HR1_4.out HB.out) | (with_reducible refine Kd.C_alloc ?_ _) | (with_reducible refine Kd.C_drewN ?_ _) | (with_reducible refine Kd.C_drew ?_))); (case side4 => exact HC1_4.out); rintro e w' ⟨rfl, ⟨nd, rfl⟩⟩; (try first | exact ⟨rfl, _, World.drewN_drewN _ _ _⟩ | exact ⟨rfl, _, Eq.trans (World.drewN_drewN _ _ _) (congrArg (World.drewN _) (Nat.add_assoc _ _ _))⟩))); try go_wp2_with (first | (go_at_call 22; (with_reducible refine (dobbyref14_alike.calls k _ _ l0_4 _ _ l1_4 false _ ?side1 ?side2 ?side3 ?side4 A19.out).mono ?_); (case side1 => repeat (first | exact (Kd.C_below HR0_4.out HB.out) | (with_reducible refine Kd.C_alloc ?_ _) | (with_reducible refine Kd.C_drewN ?_ _) | (with_reducible refine Kd.C_drew ?_))); (case side2 => exact HC0_4.out); (case side3 => repeat (first | exact (Kd.C_below HR1_4.out HB.out) | (with_reducible refine Kd.C_alloc ?_ _) | (with_reducible refine Kd.C_drewN ?_ _) | (with_reducible refine Kd.C_drew ?_))); (case side4 => exact HC1_4.out); rintro e w' ⟨rfl, ⟨nd, rfl⟩⟩; (try first | exact ⟨rfl, _, World.drewN_drewN _ _ _⟩ | exact ⟨rfl, _, Eq.trans (World.drewN_drewN _ _ _) (congrArg (World.drewN _) (Nat.add_assoc _ _ _))⟩))))
              go_meet
              case rel => exact ⟨_, (true), (by first | rfl | (simp; done) | (simp [*]; done)), H', ⟨by first | omega | exact Nat.le_refl _⟩, ⟨by (with_reducible repeat (first | refine blk_drewN ?_ _ | refine blk_drew ?_ | refine blk_alloc ?_ _)); exact BK133.out⟩, ⟨by (with_reducible repeat (first | refine blk_drewN ?_ _ | refine blk_drew ?_ | refine blk_alloc ?_ _)); exact BK134.out⟩, ⟨by repeat (first | (with_reducible first | exact HB.out | apply below_alloc | apply pw_below_drewN | apply below_drew1 | refine below_set ?_ GE133.out | refine below_set ?_ GE134.out) | exact HB.out)⟩⟩
          · rw [if_neg c18] at H
            have c18b0 : (a0_3.toList == a1_3.toList) = false := beq_eq_false_iff_ne.mpr c18
            have c18b1 : (a0_3.toList != a1_3.toList) = true := bne_iff_ne.mpr c18
            have H' := Aside0.mk H
            clear H
            have hnb27 := NB133_134.out
            have hnc27 := NB134_133.out
            have hcz28_0 : w5.cell? ⟨gb133, 0, none⟩ = some (.bool a0_0) := (blk_cell BK133.out 0).trans rfl
            have hcz28_1 : w5.cell? ⟨gb133, 1, none⟩ = some (.bool a0_1) := (blk_cell BK133.out 1).trans rfl
            have hcz28_2 : w5.cell? ⟨gb133, 2, none⟩ = some (.bool a0_2) := (blk_cell BK133.out 2).trans rfl
            have hcz28_3 : w5.cell? ⟨gb133, 3, none⟩ = some (.string a0_3) := (blk_cell BK133.out 3).trans rfl
            have hcz28_4 : w5.cell? ⟨gb133, 4, none⟩ = some (.slice A0_4 l0_4.length c0_4) := (blk_cell BK133.out 4).trans rfl
            have hcz28_5 : w5.cell? ⟨gb133, 5, none⟩ = some (.slice A0_5 l0_5.length c0_5) := (blk_cell BK133.out 5).trans rfl
            have hfz28_0 := blk_frozen BK133.out 0
            have hfz28_1 := blk_frozen BK133.out 1
            have hfz28_2 := blk_frozen BK133.out 2
            have hfz28_3 := blk_frozen BK133.out 3
            have hfz28_4 := blk_frozen BK133.out 4
            have hfz28_5 := blk_frozen BK133.out 5
            have hcz29_0 : w5.cell? ⟨gb134, 0, none⟩ = some (.bool a1_0) := (blk_cell BK134.out 0).trans rfl
            have hcz29_1 : w5.cell? ⟨gb134, 1, none⟩ = some (.bool a1_1) := (blk_cell BK134.out 1).trans rfl
            have hcz29_2 : w5.cell? ⟨gb134, 2, none⟩ = some (.bool a1_2) := (blk_cell BK134.out 2).trans rfl
            have hcz29_3 : w5.cell? ⟨gb134, 3, none⟩ = some (.string a1_3) := (blk_cell BK134.out 3).trans rfl
            have hcz29_4 : w5.cell? ⟨gb134, 4, none⟩ = some (.slice A1_4 l1_4.length c1_4) := (blk_cell BK134.out 4).trans rfl
            have hcz29_5 : w5.cell? ⟨gb134, 5, none⟩ = some (.slice A1_5 l1_5.length c1_5) := (blk_cell BK134.out 5).trans rfl
            have hfz29_0 := blk_frozen BK134.out 0
            have hfz29_1 := blk_frozen BK134.out 1
            have hfz29_2 := blk_frozen BK134.out 2
            have hfz29_3 := blk_frozen BK134.out 3
            have hfz29_4 := blk_frozen BK134.out 4
            have hfz29_5 := blk_frozen BK134.out 5
            go_wp2
            repeat (go_quiet (fail); try go_wp2)
            go_meet
            case rel => exact ⟨_, (true), (by first | rfl | (simp; done) | (simp [*]; done)), H', ⟨by first | omega | exact Nat.le_refl _⟩, ⟨by (with_reducible repeat (first | refine blk_drewN ?_ _ | refine blk_drew ?_ | refine blk_alloc ?_ _)); exact BK133.out⟩, ⟨by (with_reducible repeat (first | refine blk_drewN ?_ _ | refine blk_drew ?_ | refine blk_alloc ?_ _)); exact BK134.out⟩, ⟨by repeat (first | (with_reducible first | exact HB.out | apply below_alloc | apply pw_below_drewN | apply below_drew1 | refine below_set ?_ GE133.out | refine below_set ?_ GE134.out) | exact HB.out)⟩⟩
  case rest =>
    clear HC3
    try clear c1
    try clear c2
    try clear p2
    try clear c6
    try clear c6b0
    try clear c6b1
    try clear c6b2
    try clear c7
    try clear c10
    try clear c10b0
    try clear c10b1
    try clear c10b2
    try clear c11
    try clear c14
    try clear c14b0
    try clear c14b1
    try clear c14b2
    try clear c15
    try clear c18
    try clear c18b0
    try clear c18b1
    try clear c20
    try clear c21
    try clear c24
    try clear c27
    try clear hcz12_0
    try clear hcz12_1
    try clear hcz12_2
    try clear hcz12_3
    try clear hcz12_4
    try clear hcz12_5
    try clear hcz13_0
    try clear hcz13_1
    try clear hcz13_2
    try clear hcz13_3
    try clear hcz13_4
    try clear hcz13_5
    try clear hcz16_0
    try clear hcz16_1
    try clear hcz16_2
    try clear hcz16_3
    try clear hcz16_4
    try clear hcz16_5
    try clear hcz17_0
    try clear hcz17_1
    try clear hcz17_2
    try clear hcz17_3
    try clear hcz17_4
    try clear hcz17_5
    try clear hcz22_0
    try clear hcz22_1
    try clear hcz22_2
    try clear hcz22_3
    try clear hcz22_4
    try clear hcz22_5
    try clear hcz23_0
    try clear hcz23_1
    try clear hcz23_2
    try clear hcz23_3
    try clear hcz23_4
    try clear hcz23_5
    try clear hcz25_0
    try clear hcz25_1
    try clear hcz25_2
    try clear hcz25_3
    try clear hcz25_4
    try clear hcz25_5
    try clear hcz26_0
    try clear hcz26_1
    try clear hcz26_2
    try clear hcz26_3
    try clear hcz26_4
    try clear hcz26_5
    try clear hcz28_0
    try clear hcz28_1
    try clear hcz28_2
    try clear hcz28_3
    try clear hcz28_4
    try clear hcz28_5
    try clear hcz29_0
    try clear hcz29_1
    try clear hcz29_2
    try clear hcz29_3
    try clear hcz29_4
    try clear hcz29_5
    try clear hcz8_0
    try clear hcz8_1
    try clear hcz8_2
    try clear hcz8_3
    try clear hcz8_4
    try clear hcz8_5
    try clear hcz9_0
    try clear hcz9_1
    try clear hcz9_2
    try clear hcz9_3
    try clear hcz9_4
    try clear hcz9_5
    try clear hfz12_0
    try clear hfz12_1
    try clear hfz12_2
    try clear hfz12_3
    try clear hfz12_4
    try clear hfz12_5
    try clear hfz13_0
    try clear hfz13_1
    try clear hfz13_2
    try clear hfz13_3
    try clear hfz13_4
    try clear hfz13_5
    try clear hfz16_0
    try clear hfz16_1
    try clear hfz16_2
    try clear hfz16_3
    try clear hfz16_4
    try clear hfz16_5
    try clear hfz17_0
    try clear hfz17_1
    try clear hfz17_2
    try clear hfz17_3
    try clear hfz17_4
    try clear hfz17_5
    try clear hfz22_0
    try clear hfz22_1
    try clear hfz22_2
    try clear hfz22_3
    try clear hfz22_4
    try clear hfz22_5
    try clear hfz23_0
    try clear hfz23_1
    try clear hfz23_2
    try clear hfz23_3
    try clear hfz23_4
    try clear hfz23_5
    try clear hfz25_0
    try clear hfz25_1
    try clear hfz25_2
    try clear hfz25_3
    try clear hfz25_4
    try clear hfz25_5
    try clear hfz26_0
    try clear hfz26_1
    try clear hfz26_2
    try clear hfz26_3
    try clear hfz26_4
    try clear hfz26_5
    try clear hfz28_0
    try clear hfz28_1
    try clear hfz28_2
    try clear hfz28_3
    try clear hfz28_4
    try clear hfz28_5
    try clear hfz29_0
    try clear hfz29_1
    try clear hfz29_2
    try clear hfz29_3
    try clear hfz29_4
    try clear hfz29_5
    try clear hfz8_0
    try clear hfz8_1
    try clear hfz8_2
    try clear hfz8_3
    try clear hfz8_4
    try clear hfz8_5
    try clear hfz9_0
    try clear hfz9_1
    try clear hfz9_2
    try clear hfz9_3
    try clear hfz9_4
    try clear hfz9_5
    obtain ⟨kq, x48_2, rfl, HA, HJ2, BK133, BK134, HB⟩ := hcut
    cases kq with
    | zero => exact absurd HA.out (by simp [dobbyref14_Same.j0])
    | succ kj2 =>
      have H := HA.out
      clear HA
      simp only [dobbyref14_Same.j0] at H
      by_cases c30 : x48_2 = true
      · subst c30
        have H1 : (some false) = some r := by rw [if_pos rfl] at H; exact H
        clear H
        have H := H1
        clear H1
        obtain rfl := Option.some.inj H
        go_wp2
        repeat (go_quiet (fail); try go_wp2)
        go_ret
        exact ⟨by first | rfl | (simp [errW_none, errW_some] <;> rfl) | (simp [*, errW_none, errW_some] <;> rfl), by repeat (first | (with_reducible first | exact HB.out | apply below_alloc | apply pw_below_drewN | apply below_drew1 | refine below_set ?_ GE133.out | refine below_set ?_ GE134.out) | exact HB.out)⟩
      · replace c30 := Bool.eq_false_iff.mpr c30
        subst c30
        have H1 : (dobbyref14_Same.l0 kj2 0 a0_0 a0_1 a0_2 a0_3 l0_4 l0_5 a1_0 a1_1 a1_2 a1_3 l1_4 l1_5) = some r := by rw [if_neg (show ¬ (false = true) by decide)] at H; exact H
        clear H
        have H := H1
        clear H1
        have H' := Aside0.mk H
        clear H
        go_wp2
        repeat (go_quiet (fail); try go_wp2)
        go_loopg [5] kj2 (fun kq v5 w' => ∃ (x5_2 : Int), v5 = .int .i64 x5_2 ∧ Aside0 (dobbyref14_Same.l0 kq x5_2 a0_0 a0_1 a0_2 a0_3 l0_4 l0_5 a1_0 a1_1 a1_2 a1_3 l1_4 l1_5 = some r) ∧ Aside0 (kq ≤ kj2) ∧ Aside0 (w'.heap[gb133]? = some (.cells #[.bool a0_0, .bool a0_1, .bool a0_2, .string a0_3, (.slice A0_4 l0_4.length c0_4), (.slice A0_5 l0_5.length c0_5)] 32 (0, 0))) ∧ Aside0 (w'.heap[gb134]? = some (.cells #[.bool a1_0, .bool a1_1, .bool a1_2, .string a1_3, (.slice A1_4 l1_4.length c1_4), (.slice A1_5 l1_5.length c1_5)] 32 (0, 0))) ∧ Aside0 (Below w.heap.size w w'))
        case atStart => exact ⟨(0), (by first | rfl | (simp; done) | (simp [*]; done)), H', ⟨Nat.le_refl _⟩, ⟨by (with_reducible repeat (first | refine blk_drewN ?_ _ | refine blk_drew ?_ | refine blk_alloc ?_ _)); exact BK133.out⟩, ⟨by (with_reducible repeat (first | refine blk_drewN ?_ _ | refine blk_drew ?_ | refine blk_alloc ?_ _)); exact BK134.out⟩, ⟨by repeat (first | (with_reducible first | exact HB.out | apply below_alloc | apply pw_below_drewN | apply below_drew1 | refine below_set ?_ GE133.out | refine below_set ?_ GE134.out) | exact HB.out)⟩⟩
        case round =>
          clear H'
          try clear c1
          try clear c2
          try clear p2
          try clear c3
          try clear c6
          try clear c6b0
          try clear c6b1
          try clear c6b2
          try clear c7
          try clear c10
          try clear c10b0
          try clear c10b1
          try clear c10b2
          try clear c11
          try clear c14
          try clear c14b0
          try clear c14b1
          try clear c14b2
          try clear c15
          try clear c18
          try clear c18b0
          try clear c18b1
          try clear c20
          try clear c21
          try clear c24
          try clear c27
          try clear c30
          try clear hcz12_0
          try clear hcz12_1
          try clear hcz12_2
          try clear hcz12_3
          try clear hcz12_4
          try clear hcz12_5
          try clear hcz13_0
          try clear hcz13_1
          try clear hcz13_2
          try clear hcz13_3
          try clear hcz13_4
          try clear hcz13_5
          try clear hcz16_0
          try clear hcz16_1
          try clear hcz16_2
          try clear hcz16_3
          try clear hcz16_4
          try clear hcz16_5
          try clear hcz17_0
          try clear hcz17_1
          try clear hcz17_2
          try clear hcz17_3
          try clear hcz17_4
          try clear hcz17_5
          try clear hcz22_0
          try clear hcz22_1
          try clear hcz22_2
          try clear hcz22_3
          try clear hcz22_4
          try clear hcz22_5
          try clear hcz23_0
          try clear hcz23_1
          try clear hcz23_2
          try clear hcz23_3
          try clear hcz23_4
          try clear hcz23_5
          try clear hcz25_0
          try clear hcz25_1
          try clear hcz25_2
          try clear hcz25_3
          try clear hcz25_4
          try clear hcz25_5
          try clear hcz26_0
          try clear hcz26_1
          try clear hcz26_2
          try clear hcz26_3
          try clear hcz26_4
          try clear hcz26_5
          try clear hcz28_0
          try clear hcz28_1
          try clear hcz28_2
          try clear hcz28_3
          try clear hcz28_4
          try clear hcz28_5
          try clear hcz29_0
          try clear hcz29_1
          try clear hcz29_2
          try clear hcz29_3
          try clear hcz29_4
          try clear hcz29_5
          try clear hcz8_0
          try clear hcz8_1
          try clear hcz8_2
          try clear hcz8_3
          try clear hcz8_4
          try clear hcz8_5
          try clear hcz9_0
          try clear hcz9_1
          try clear hcz9_2
          try clear hcz9_3
          try clear hcz9_4
          try clear hcz9_5
          try clear hfz12_0
          try clear hfz12_1
          try clear hfz12_2
          try clear hfz12_3
          try clear hfz12_4
          try clear hfz12_5
          try clear hfz13_0
          try clear hfz13_1
          try clear hfz13_2
          try clear hfz13_3
          try clear hfz13_4
          try clear hfz13_5
          try clear hfz16_0
          try clear hfz16_1
          try clear hfz16_2
          try clear hfz16_3
          try clear hfz16_4
          try clear hfz16_5
          try clear hfz17_0
          try clear hfz17_1
          try clear hfz17_2
          try clear hfz17_3
          try clear hfz17_4
          try clear hfz17_5
          try clear hfz22_0
          try clear hfz22_1
          try clear hfz22_2
          try clear hfz22_3
          try clear hfz22_4
          try clear hfz22_5
          try clear hfz23_0
          try clear hfz23_1
          try clear hfz23_2
          try clear hfz23_3
          try clear hfz23_4
          try clear hfz23_5
          try clear hfz25_0
          try clear hfz25_1
          try clear hfz25_2
          try clear hfz25_3
          try clear hfz25_4
          try clear hfz25_5
          try clear hfz26_0
          try clear hfz26_1
          try clear hfz26_2
          try clear hfz26_3
          try clear hfz26_4
          try clear hfz26_5
          try clear hfz28_0
          try clear hfz28_1
          try clear hfz28_2
          try clear hfz28_3
          try clear hfz28_4
          try clear hfz28_5
          try clear hfz29_0
          try clear hfz29_1
          try clear hfz29_2
          try clear hfz29_3
          try clear hfz29_4
          try clear hfz29_5
          try clear hfz8_0
          try clear hfz8_1
          try clear hfz8_2
          try clear hfz8_3
          try clear hfz8_4
          try clear hfz8_5
          try clear hfz9_0
          try clear hfz9_1
          try clear hfz9_2
          try clear hfz9_3
          try clear hfz9_4
          try clear hfz9_5
          try clear p2
          obtain ⟨x5_2, rfl, HA, HK2, BK133, BK134, HB⟩ := hrel
          cases gk with
          | zero => exact absurd HA.out (by simp [dobbyref14_Same.l0])
          | succ k2 =>
            have H := HA.out
            clear HA
            simp only [dobbyref14_Same.l0] at H
            by_cases c31 : x5_2 < (l0_5.length : Int)
            · rw [if_pos c31] at H
              have c31b0 : decide (x5_2 < (l0_5.length : Int)) = true := decide_eq_true c31
              clear c31
              by_cases c32 : 0 ≤ x5_2
              · rw [if_pos c32] at H
                have c32b0 : decide (0 ≤ x5_2) = true := decide_eq_true c32
                clear c32
                by_cases c33 : x5_2 < (l1_5.length : Int)
                · rw [if_pos c33] at H
                  have c33b0 : decide (x5_2 < (l1_5.length : Int)) = true := decide_eq_true c33
                  clear c33
                  by_cases c34 : ((rd_T86 l0_5 x5_2).f0) = ((rd_T86 l1_5 x5_2).f0)
                  · rw [if_pos c34] at H
                    have c34b0 : (((rd_T86 l0_5 x5_2).f0) == ((rd_T86 l1_5 x5_2).f0)) = true := beq_iff_eq.mpr c34
                    have c34b1 : (((rd_T86 l0_5 x5_2).f0) != ((rd_T86 l1_5 x5_2).f0)) = false := bne_eq_false_iff_eq.mpr c34
                    clear c34
                    replace H := Option.bind_eq_some_iff.mp H
                    obtain ⟨t140, A350, H⟩ := H
                    replace H : (if t140 = true then (dobbyref14_Same.l0 k2 (wrap64 (x5_2 + 1)) a0_0 a0_1 a0_2 a0_3 l0_4 l0_5 a1_0 a1_1 a1_2 a1_3 l1_4 l1_5) else (some false)) = some r := H
                    have A35 := Aside0.mk A350
                    clear A350
                    by_cases c36 : t140 = true
                    · subst c36
                      have H1 : (dobbyref14_Same.l0 k2 (wrap64 (x5_2 + 1)) a0_0 a0_1 a0_2 a0_3 l0_4 l0_5 a1_0 a1_1 a1_2 a1_3 l1_4 l1_5) = some r := by rw [if_pos rfl] at H; exact H
                      clear H
                      have H := H1
                      clear H1
                      have H' := Aside0.mk H
                      clear H
                      have hnb37 := NB133_134.out
                      have hnc37 := NB134_133.out
                      have hcz38_0 : wr.cell? ⟨gb133, 0, none⟩ = some (.bool a0_0) := (blk_cell BK133.out 0).trans rfl
                      have hcz38_1 : wr.cell? ⟨gb133, 1, none⟩ = some (.bool a0_1) := (blk_cell BK133.out 1).trans rfl
                      have hcz38_2 : wr.cell? ⟨gb133, 2, none⟩ = some (.bool a0_2) := (blk_cell BK133.out 2).trans rfl
                      have hcz38_3 : wr.cell? ⟨gb133, 3, none⟩ = some (.string a0_3) := (blk_cell BK133.out 3).trans rfl
                      have hcz38_4 : wr.cell? ⟨gb133, 4, none⟩ = some (.slice A0_4 l0_4.length c0_4) := (blk_cell BK133.out 4).trans rfl
                      have hcz38_5 : wr.cell? ⟨gb133, 5, none⟩ = some (.slice A0_5 l0_5.length c0_5) := (blk_cell BK133.out 5).trans rfl
                      have hfz38_0 := blk_frozen BK133.out 0
                      have hfz38_1 := blk_frozen BK133.out 1
                      have hfz38_2 := blk_frozen BK133.out 2
                      have hfz38_3 := blk_frozen BK133.out 3
                      have hfz38_4 := blk_frozen BK133.out 4
                      have hfz38_5 := blk_frozen BK133.out 5
                      have p136 : 0 ≤ (x5_2 : Int) := of_decide_eq_true (by first | (with_reducible assumption) | assumption)
                      have q136 : x5_2 < (l0_5.length : Int) := of_decide_eq_true (by first | (with_reducible assumption) | assumption)
                      obtain ⟨ad136, A136_1, c136_1, e136, hx136_0, hx136_1, hl136_1, hi136_1⟩ := at_T86 HR0_5.out x5_2 p136 q136
                      cases e136
                      replace hx136_0 := (HB.out.cell (World.block_lt_of_cell? w _ hx136_0)).trans hx136_0
                      replace hx136_1 := (HB.out.cell (World.block_lt_of_cell? w _ hx136_1)).trans hx136_1
                      have HR136_1 := Aside0.mk hi136_1
                      have HC136_1 := Aside0.mk hl136_1
                      clear hi136_1 hl136_1
                      replace p136 := eq_true p136
                      replace q136 := eq_true q136
                      have hcz39_0 : wr.cell? ⟨gb134, 0, none⟩ = some (.bool a1_0) := (blk_cell BK134.out 0).trans rfl
                      have hcz39_1 : wr.cell? ⟨gb134, 1, none⟩ = some (.bool a1_1) := (blk_cell BK134.out 1).trans rfl
                      have hcz39_2 : wr.cell? ⟨gb134, 2, none⟩ = some (.bool a1_2) := (blk_cell BK134.out 2).trans rfl
                      have hcz39_3 : wr.cell? ⟨gb134, 3, none⟩ = some (.string a1_3) := (blk_cell BK134.out 3).trans rfl
                      have hcz39_4 : wr.cell? ⟨gb134, 4, none⟩ = some (.slice A1_4 l1_4.length c1_4) := (blk_cell BK134.out 4).trans rfl
                      have hcz39_5 : wr.cell? ⟨gb134, 5, none⟩ = some (.slice A1_5 l1_5.length c1_5) := (blk_cell BK134.out 5).trans rfl
                      have hfz39_0 := blk_frozen BK134.out 0
                      have hfz39_1 := blk_frozen BK134.out 1
                      have hfz39_2 := blk_frozen BK134.out 2
                      have hfz39_3 := blk_frozen BK134.out 3
                      have hfz39_4 := blk_frozen BK134.out 4
                      have hfz39_5 := blk_frozen BK134.out 5
                      have p137 : 0 ≤ (x5_2 : Int) := of_decide_eq_true (by first | (with_reducible assumption) | assumption)
                      have q137 : x5_2 < (l1_5.length : Int) := of_decide_eq_true (by first | (with_reducible assumption) | assumption)
                      obtain ⟨ad137, A137_1, c137_1, e137, hx137_0, hx137_1, hl137_1, hi137_1⟩ := at_T86 HR1_5.out x5_2 p137 q137
                      cases e137
                      replace hx137_0 := (HB.out.cell (World.block_lt_of_cell? w _ hx137_0)).trans hx137_0
                      replace hx137_1 := (HB.out.cell (World.block_lt_of_cell? w _ hx137_1)).trans hx137_1
                      have HR137_1 := Aside0.mk hi137_1
                      have HC137_1 := Aside0.mk hl137_1
                      clear hi137_1 hl137_1
                      replace p137 := eq_true p137
                      replace q137 := eq_true q137
                      have p138 : 0 ≤ (x5_2 : Int) := of_decide_eq_true (by first | (with_reducible assumption) | assumption)
                      have q138 : x5_2 < (l0_5.length : Int) := of_decide_eq_true (by first | (with_reducible assumption) | assumption)
                      obtain ⟨ad138, A138_1, c138_1, e138, hx138_0, hx138_1, hl138_1, hi138_1⟩ := at_T86 HR0_5.out x5_2 p138 q138
                      obtain rfl : ad136 = ad138 := (by injection e138)
                      replace hx138_0 := (HB.out.cell (World.block_lt_of_cell? w _ hx138_0)).trans hx138_0
                      replace hx138_1 := (HB.out.cell (World.block_lt_of_cell? w _ hx138_1)).trans hx138_1
                      have HR138_1 := Aside0.mk hi138_1
                      have HC138_1 := Aside0.mk hl138_1
                      clear hi138_1 hl138_1
                      replace p138 := eq_true p138
                      replace q138 := eq_true q138
                      have ea_ := Option.some.inj (hx136_1.symm.trans hx138_1)
                      injection ea_ with ea_ en_ ec_
                      subst ea_
                      subst ec_
                      clear en_
                      have p139 : 0 ≤ (x5_2 : Int) := of_decide_eq_true (by first | (with_reducible assumption) | assumption)
                      have q139 : x5_2 < (l1_5.length : Int) := of_decide_eq_true (by first | (with_reducible assumption) | assumption)
                      obtain ⟨ad139, A139_1, c139_1, e139, hx139_0, hx139_1, hl139_1, hi139_1⟩ := at_T86 HR1_5.out x5_2 p139 q139
                      obtain rfl : ad137 = ad139 := (by injection e139)
                      replace hx139_0 := (HB.out.cell (World.block_lt_of_cell? w _ hx139_0)).trans hx139_0
                      replace hx139_1 := (HB.out.cell (World.block_lt_of_cell? w _ hx139_1)).trans hx139_1
                      have HR139_1 := Aside0.mk hi139_1
                      have HC139_1 := Aside0.mk hl139_1
                      clear hi139_1 hl139_1
                      replace p139 := eq_true p139
                      replace q139 := eq_true q139
                      have ea_ := Option.some.inj (hx137_1.symm.trans hx139_1)
                      injection ea_ with ea_ en_ ec_
                      subst ea_
                      subst ec_
                      clear en_
                      go_wp2_with (first | (go_at_call 22; (with_reducible refine (dobbyref14_alike.calls k2 _ _ ((rd_T86 l0_5 x5_2).f1) _ _ ((rd_T86 l1_5 x5_2).f1) true _ ?side1 ?side2 ?side3 ?side4 A35.out).mono ?_); (case side1 => repeat (first | exact (Kd.C_below HR138_1.out HB.out) | (with_reducible refine Kd.C_alloc ?_ _) | (with_reducible refine Kd.C_drewN ?_ _) | (with_reducible refine Kd.C_drew ?_))); (case side2 => exact HC138_1.out); (case side3 => repeat (first | exact (Kd.C_below HR139_1.out HB.out) | (with_reducible refine Kd.C_alloc ?_ _) | (with_reducible refine Kd.C_drewN ?_ _) | (with_reducible refine Kd.C_drew ?_))); (case side4 => exact HC139_1.out); rintro e w' ⟨rfl, ⟨nd, rfl⟩⟩; (try first | exact ⟨rfl, _, World.drewN_drewN _ _ _⟩ | exact ⟨rfl, _, Eq.trans (World.drewN_drewN _ _ _) (congrArg (World.drewN _) (Nat.add_assoc _ _ _))⟩)))
                      repeat (go_quiet (first | (go_at_call 22; (with_reducible refine (dobbyref14_alike.calls k2 _ _ ((rd_T86 l0_5 x5_2).f1) _ _ ((rd_T86 l1_5 x5_2).f1) true _ ?side1 ?side2 ?side3 ?side4 A35.out).mono ?_); (case side1 => repeat (first | exact (Kd.C_below HR138_1.out HB.out) | (with_reducible refine Kd.C_alloc ?_ _) | (with_reducible refine Kd.C_drewN ?_ _) | (with_reducible refine Kd.C_drew ?_))); (case side2 => exact HC138_1.out); (case side3 => repeat (first | exact (Kd.C_below HR139_1.out HB.out) | (with_reducible refine Kd.C_alloc ?_ _) | (with_reducible refine Kd.C_drewN ?_ _) | (with_reducible refine Kd.C_drew ?_))); (case side4 => exact HC139_1.out); rintro e w' ⟨rfl, ⟨nd, rfl⟩⟩; (try first | exact ⟨rfl, _, World.drewN_drewN _ _ _⟩ | exact ⟨rfl, _, Eq.trans (World.drewN_drewN _ _ _) (congrArg (World.drewN _) (Nat.add_assoc _ _ _))⟩))); try go_wp2_with (first | (go_at_call 22; (with_reducible refine (dobbyref14_alike.calls k2 _ _ ((rd_T86 l0_5 x5_2).f1) _ _ ((rd_T86 l1_5 x5_2).f1) true _ ?side1 ?side2 ?side3 ?side4 A35.out).mono ?_); (case side1 => repeat (first | exact (Kd.C_below HR138_1.out HB.out) | (with_reducible refine Kd.C_alloc ?_ _) | (with_reducible refine Kd.C_drewN ?_ _) | (with_reducible refine Kd.C_drew ?_))); (case side2 => exact HC138_1.out); (case side3 => repeat (first | exact (Kd.C_below HR139_1.out HB.out) | (with_reducible refine Kd.C_alloc ?_ _) | (with_reducible refine Kd.C_drewN ?_ _) | (with_reducible refine Kd.C_drew ?_))); (case side4 => exact HC139_1.out); rintro e w' ⟨rfl, ⟨nd, rfl⟩⟩; (try first | exact ⟨rfl, _, World.drewN_drewN _ _ _⟩ | exact ⟨rfl, _, Eq.trans (World.drewN_drewN _ _ _) (congrArg (World.drewN _) (Nat.add_assoc _ _ _))⟩))))
                      go_roundg k2
                      case measure => have := HJ2.out; have := HK2.out; omega
                      case rel => exact ⟨(wrap64 (x5_2 + 1)), (by first | rfl | (simp; done) | (simp [*]; done)), H', ⟨by have := HJ2.out; have := HK2.out; omega⟩, ⟨by (with_reducible repeat (first | refine blk_drewN ?_ _ | refine blk_drew ?_ | refine blk_alloc ?_ _)); exact BK133.out⟩, ⟨by (with_reducible repeat (first | refine blk_drewN ?_ _ | refine blk_drew ?_ | refine blk_alloc ?_ _)); exact BK134.out⟩, ⟨by repeat (first | (with_reducible first | exact HB.out | apply below_alloc | apply pw_below_drewN | apply below_drew1 | refine below_set ?_ GE133.out | refine below_set ?_ GE134.out) | exact HB.out)⟩⟩
                    · replace c36 := Bool.eq_false_iff.mpr c36
                      subst c36
                      have H1 : (some false) = some r := by rw [if_neg (show ¬ (false = true) by decide)] at H; exact H
                      clear H
                      have H := H1
                      clear H1
                      obtain rfl := Option.some.inj H
                      have hnb40 := NB133_134.out
                      have hnc40 := NB134_133.out
                      have hcz41_0 : wr.cell? ⟨gb133, 0, none⟩ = some (.bool a0_0) := (blk_cell BK133.out 0).trans rfl
                      have hcz41_1 : wr.cell? ⟨gb133, 1, none⟩ = some (.bool a0_1) := (blk_cell BK133.out 1).trans rfl
                      have hcz41_2 : wr.cell? ⟨gb133, 2, none⟩ = some (.bool a0_2) := (blk_cell BK133.out 2).trans rfl
                      have hcz41_3 : wr.cell? ⟨gb133, 3, none⟩ = some (.string a0_3) := (blk_cell BK133.out 3).trans rfl
                      have hcz41_4 : wr.cell? ⟨gb133, 4, none⟩ = some (.slice A0_4 l0_4.length c0_4) := (blk_cell BK133.out 4).trans rfl
                      have hcz41_5 : wr.cell? ⟨gb133, 5, none⟩ = some (.slice A0_5 l0_5.length c0_5) := (blk_cell BK133.out 5).trans rfl
                      have hfz41_0 := blk_frozen BK133.out 0
                      have hfz41_1 := blk_frozen BK133.out 1
                      have hfz41_2 := blk_frozen BK133.out 2
                      have hfz41_3 := blk_frozen BK133.out 3
                      have hfz41_4 := blk_frozen BK133.out 4
                      have hfz41_5 := blk_frozen BK133.out 5
                      have p136 : 0 ≤ (x5_2 : Int) := of_decide_eq_true (by first | (with_reducible assumption) | assumption)
                      have q136 : x5_2 < (l0_5.length : Int) := of_decide_eq_true (by first | (with_reducible assumption) | assumption)
                      obtain ⟨ad136, A136_1, c136_1, e136, hx136_0, hx136_1, hl136_1, hi136_1⟩ := at_T86 HR0_5.out x5_2 p136 q136
                      cases e136
                      replace hx136_0 := (HB.out.cell (World.block_lt_of_cell? w _ hx136_0)).trans hx136_0
                      replace hx136_1 := (HB.out.cell (World.block_lt_of_cell? w _ hx136_1)).trans hx136_1
                      have HR136_1 := Aside0.mk hi136_1
                      have HC136_1 := Aside0.mk hl136_1
                      clear hi136_1 hl136_1
                      replace p136 := eq_true p136
                      replace q136 := eq_true q136
                      have hcz42_0 : wr.cell? ⟨gb134, 0, none⟩ = some (.bool a1_0) := (blk_cell BK134.out 0).trans rfl
                      have hcz42_1 : wr.cell? ⟨gb134, 1, none⟩ = some (.bool a1_1) := (blk_cell BK134.out 1).trans rfl
                      have hcz42_2 : wr.cell? ⟨gb134, 2, none⟩ = some (.bool a1_2) := (blk_cell BK134.out 2).trans rfl
                      have hcz42_3 : wr.cell? ⟨gb134, 3, none⟩ = some (.string a1_3) := (blk_cell BK134.out 3).trans rfl
                      have hcz42_4 : wr.cell? ⟨gb134, 4, none⟩ = some (.slice A1_4 l1_4.length c1_4) := (blk_cell BK134.out 4).trans rfl
                      have hcz42_5 : wr.cell? ⟨gb134, 5, none⟩ = some (.slice A1_5 l1_5.length c1_5) := (blk_cell BK134.out 5).trans rfl
                      have hfz42_0 := blk_frozen BK134.out 0
                      have hfz42_1 := blk_frozen BK134.out 1
                      have hfz42_2 := blk_frozen BK134.out 2
                      have hfz42_3 := blk_frozen BK134.out 3
                      have hfz42_4 := blk_frozen BK134.out 4
                      have hfz42_5 := blk_frozen BK134.out 5
                      have p137 : 0 ≤ (x5_2 : Int) := of_decide_eq_true (by first | (with_reducible assumption) | assumption)
                      have q137 : x5_2 < (l1_5.length : Int) := of_decide_eq_true (by first | (with_reducible assumption) | assumption)
                      obtain ⟨ad137, A137_1, c137_1, e137, hx137_0, hx137_1, hl137_1, hi137_1⟩ := at_T86 HR1_5.out x5_2 p137 q137
                      cases e137
                      replace hx137_0 := (HB.out.cell (World.block_lt_of_cell? w _ hx137_0)).trans hx137_0
                      replace hx137_1 := (HB.out.cell (World.block_lt_of_cell? w _ hx137_1)).trans hx137_1
                      have HR137_1 := Aside0.mk hi137_1
                      have HC137_1 := Aside0.mk hl137_1
                      clear hi137_1 hl137_1
                      replace p137 := eq_true p137
                      replace q137 := eq_true q137
                      have p138 : 0 ≤ (x5_2 : Int) := of_decide_eq_true (by first | (with_reducible assumption) | assumption)
                      have q138 : x5_2 < (l0_5.length : Int) := of_decide_eq_true (by first | (with_reducible assumption) | assumption)
                      obtain ⟨ad138, A138_1, c138_1, e138, hx138_0, hx138_1, hl138_1, hi138_1⟩ := at_T86 HR0_5.out x5_2 p138 q138
                      obtain rfl : ad136 = ad138 := (by injection e138)
                      replace hx138_0 := (HB.out.cell (World.block_lt_of_cell? w _ hx138_0)).trans hx138_0
                      replace hx138_1 := (HB.out.cell (World.block_lt_of_cell? w _ hx138_1)).trans hx138_1
                      have HR138_1 := Aside0.mk hi138_1
                      have HC138_1 := Aside0.mk hl138_1
                      clear hi138_1 hl138_1
                      replace p138 := eq_true p138
                      replace q138 := eq_true q138
                      have ea_ := Option.some.inj (hx136_1.symm.trans hx138_1)
                      injection ea_ with ea_ en_ ec_
                      subst ea_
                      subst ec_
                      clear en_
                      have p139 : 0 ≤ (x5_2 : Int) := of_decide_eq_true (by first | (with_reducible assumption) | assumption)
                      have q139 : x5_2 < (l1_5.length : Int) := of_decide_eq_true (by first | (with_reducible assumption) | assumption)
                      obtain ⟨ad139, A139_1, c139_1, e139, hx139_0, hx139_1, hl139_1, hi139_1⟩ := at_T86 HR1_5.out x5_2 p139 q139
                      obtain rfl : ad137 = ad139 := (by injection e139)
                      replace hx139_0 := (HB.out.cell (World.block_lt_of_cell? w _ hx139_0)).trans hx139_0
                      replace hx139_1 := (HB.out.cell (World.block_lt_of_cell? w _ hx139_1)).trans hx139_1
                      have HR139_1 := Aside0.mk hi139_1
                      have HC139_1 := Aside0.mk hl139_1
                      clear hi139_1 hl139_1
                      replace p139 := eq_true p139
                      replace q139 := eq_true q139
                      have ea_ := Option.some.inj (hx137_1.symm.trans hx139_1)
                      injection ea_ with ea_ en_ ec_
                      subst ea_
                      subst ec_
                      clear en_
                      go_wp2_with (first | (go_at_call 22; (with_reducible refine (dobbyref14_alike.calls k2 _ _ ((rd_T86 l0_5 x5_2).f1) _ _ ((rd_T86 l1_5 x5_2).f1) false _ ?side1 ?side2 ?side3 ?side4 A35.out).mono ?_); (case side1 => repeat (first | exact (Kd.C_below HR138_1.out HB.out) | (with_reducible refine Kd.C_alloc ?_ _) | (with_reducible refine Kd.C_drewN ?_ _) | (with_reducible refine Kd.C_drew ?_))); (case side2 => exact HC138_1.out); (case side3 => repeat (first | exact (Kd.C_below HR139_1.out HB.out) | (with_reducible refine Kd.C_alloc ?_ _) | (with_reducible refine Kd.C_drewN ?_ _) | (with_reducible refine Kd.C_drew ?_))); (case side4 => exact HC139_1.out); rintro e w' ⟨rfl, ⟨nd, rfl⟩⟩; (try first | exact ⟨rfl, _, World.drewN_drewN _ _ _⟩ | exact ⟨rfl, _, Eq.trans (World.drewN_drewN _ _ _) (congrArg (World.drewN _) (Nat.add_assoc _ _ _))⟩)))
                      repeat (go_quiet (first | (go_at_call 22; (with_reducible refine (dobbyref14_alike.calls k2 _ _ ((rd_T86 l0_5 x5_2).f1) _ _ ((rd_T86 l1_5 x5_2).f1) false _ ?side1 ?side2 ?side3 ?side4 A35.out).mono ?_); (case side1 => repeat (first | exact (Kd.C_below HR138_1.out HB.out) | (with_reducible refine Kd.C_alloc ?_ _) | (with_reducible refine Kd.C_drewN ?_ _) | (with_reducible refine Kd.C_drew ?_))); (case side2 => exact HC138_1.out); (case side3 => repeat (first | exact (Kd.C_below HR139_1.out HB.out) | (with_reducible refine Kd.C_alloc ?_ _) | (with_reducible refine Kd.C_drewN ?_ _) | (with_reducible refine Kd.C_drew ?_))); (case side4 => exact HC139_1.out); rintro e w' ⟨rfl, ⟨nd, rfl⟩⟩; (try first | exact ⟨rfl, _, World.drewN_drewN _ _ _⟩ | exact ⟨rfl, _, Eq.trans (World.drewN_drewN _ _ _) (congrArg (World.drewN _) (Nat.add_assoc _ _ _))⟩))); try go_wp2_with (first | (go_at_call 22; (with_reducible refine (dobbyref14_alike.calls k2 _ _ ((rd_T86 l0_5 x5_2).f1) _ _ ((rd_T86 l1_5 x5_2).f1) false _ ?side1 ?side2 ?side3 ?side4 A35.out).mono ?_); (case side1 => repeat (first | exact (Kd.C_below HR138_1.out HB.out) | (with_reducible refine Kd.C_alloc ?_ _) | (with_reducible refine Kd.C_drewN ?_ _) | (with_reducible refine Kd.C_drew ?_))); (case side2 => exact HC138_1.out); (case side3 => repeat (first | exact (Kd.C_below HR139_1.out HB.out) | (with_reducible refine Kd.C_alloc ?_ _) | (with_reducible refine Kd.C_drewN ?_ _) | (with_reducible refine Kd.C_drew ?_))); (case side4 => exact HC139_1.out); rintro e w' ⟨rfl, ⟨nd, rfl⟩⟩; (try first | exact ⟨rfl, _, World.drewN_drewN _ _ _⟩ | exact ⟨rfl, _, Eq.trans (World.drewN_drewN _ _ _) (congrArg (World.drewN _) (Nat.add_assoc _ _ _))⟩))))
                      go_ret
                      exact ⟨by first | rfl | (simp [errW_none, errW_some] <;> rfl) | (simp [*, errW_none, errW_some] <;> rfl), by repeat (first | (with_reducible first | exact HB.out | apply below_alloc | apply pw_below_drewN | apply below_drew1 | refine below_set ?_ GE133.out | refine below_set ?_ GE134.out) | exact HB.out)⟩
                  · rw [if_neg c34] at H
                    have c34b0 : (((rd_T86 l0_5 x5_2).f0) == ((rd_T86 l1_5 x5_2).f0)) = false := beq_eq_false_iff_ne.mpr c34
                    have c34b1 : (((rd_T86 l0_5 x5_2).f0) != ((rd_T86 l1_5 x5_2).f0)) = true := bne_iff_ne.mpr c34
                    obtain rfl := Option.some.inj H
                    have hnb43 := NB133_134.out
                    have hnc43 := NB134_133.out
                    have hcz44_0 : wr.cell? ⟨gb133, 0, none⟩ = some (.bool a0_0) := (blk_cell BK133.out 0).trans rfl
                    have hcz44_1 : wr.cell? ⟨gb133, 1, none⟩ = some (.bool a0_1) := (blk_cell BK133.out 1).trans rfl
                    have hcz44_2 : wr.cell? ⟨gb133, 2, none⟩ = some (.bool a0_2) := (blk_cell BK133.out 2).trans rfl
                    have hcz44_3 : wr.cell? ⟨gb133, 3, none⟩ = some (.string a0_3) := (blk_cell BK133.out 3).trans rfl
                    have hcz44_4 : wr.cell? ⟨gb133, 4, none⟩ = some (.slice A0_4 l0_4.length c0_4) := (blk_cell BK133.out 4).trans rfl
                    have hcz44_5 : wr.cell? ⟨gb133, 5, none⟩ = some (.slice A0_5 l0_5.length c0_5) := (blk_cell BK133.out 5).trans rfl
                    have hfz44_0 := blk_frozen BK133.out 0
                    have hfz44_1 := blk_frozen BK133.out 1
                    have hfz44_2 := blk_frozen BK133.out 2
                    have hfz44_3 := blk_frozen BK133.out 3
                    have hfz44_4 := blk_frozen BK133.out 4
                    have hfz44_5 := blk_frozen BK133.out 5
                    have p136 : 0 ≤ (x5_2 : Int) := of_decide_eq_true (by first | (with_reducible assumption) | assumption)
                    have q136 : x5_2 < (l0_5.length : Int) := of_decide_eq_true (by first | (with_reducible assumption) | assumption)
                    obtain ⟨ad136, A136_1, c136_1, e136, hx136_0, hx136_1, hl136_1, hi136_1⟩ := at_T86 HR0_5.out x5_2 p136 q136
                    cases e136
                    replace hx136_0 := (HB.out.cell (World.block_lt_of_cell? w _ hx136_0)).trans hx136_0
                    replace hx136_1 := (HB.out.cell (World.block_lt_of_cell? w _ hx136_1)).trans hx136_1
                    have HR136_1 := Aside0.mk hi136_1
                    have HC136_1 := Aside0.mk hl136_1
                    clear hi136_1 hl136_1
                    replace p136 := eq_true p136
                    replace q136 := eq_true q136
                    have hcz45_0 : wr.cell? ⟨gb134, 0, none⟩ = some (.bool a1_0) := (blk_cell BK134.out 0).trans rfl
                    have hcz45_1 : wr.cell? ⟨gb134, 1, none⟩ = some (.bool a1_1) := (blk_cell BK134.out 1).trans rfl
                    have hcz45_2 : wr.cell? ⟨gb134, 2, none⟩ = some (.bool a1_2) := (blk_cell BK134.out 2).trans rfl
                    have hcz45_3 : wr.cell? ⟨gb134, 3, none⟩ = some (.string a1_3) := (blk_cell BK134.out 3).trans rfl
                    have hcz45_4 : wr.cell? ⟨gb134, 4, none⟩ = some (.slice A1_4 l1_4.length c1_4) := (blk_cell BK134.out 4).trans rfl
                    have hcz45_5 : wr.cell? ⟨gb134, 5, none⟩ = some (.slice A1_5 l1_5.length c1_5) := (blk_cell BK134.out 5).trans rfl
                    have hfz45_0 := blk_frozen BK134.out 0
                    have hfz45_1 := blk_frozen BK134.out 1
                    have hfz45_2 := blk_frozen BK134.out 2
                    have hfz45_3 := blk_frozen BK134.out 3
                    have hfz45_4 := blk_frozen BK134.out 4
                    have hfz45_5 := blk_frozen BK134.out 5
                    have p137 : 0 ≤ (x5_2 : Int) := of_decide_eq_true (by first | (with_reducible assumption) | assumption)
                    have q137 : x5_2 < (l1_5.length : Int) := of_decide_eq_true (by first | (with_reducible assumption) | assumption)
                    obtain ⟨ad137, A137_1, c137_1, e137, hx137_0, hx137_1, hl137_1, hi137_1⟩ := at_T86 HR1_5.out x5_2 p137 q137
                    cases e137
                    replace hx137_0 := (HB.out.cell (World.block_lt_of_cell? w _ hx137_0)).trans hx137_0
                    replace hx137_1 := (HB.out.cell (World.block_lt_of_cell? w _ hx137_1)).trans hx137_1
                    have HR137_1 := Aside0.mk hi137_1
                    have HC137_1 := Aside0.mk hl137_1
                    clear hi137_1 hl137_1
                    replace p137 := eq_true p137
                    replace q137 := eq_true q137
                    go_wp2
                    repeat (go_quiet (fail); try go_wp2)
                    go_ret
                    exact ⟨by first | rfl | (simp [errW_none, errW_some] <;> rfl) | (simp [*, errW_none, errW_some] <;> rfl), by repeat (first | (with_reducible first | exact HB.out | apply below_alloc | apply pw_below_drewN | apply below_drew1 | refine below_set ?_ GE133.out | refine below_set ?_ GE134.out) | exact HB.out)⟩
                · rw [if_neg c33] at H
                  exact absurd H (by simp)
              · rw [if_neg c32] at H
                exact absurd H (by simp)
            · rw [if_neg c31] at H
              have c31b0 : decide (x5_2 < (l0_5.length : Int)) = false := decide_eq_false c31
              clear c31
              obtain rfl := Option.some.inj H
              have hnb46 := NB133_134.out
              have hnc46 := NB134_133.out
              have hcz47_0 : wr.cell? ⟨gb133, 0, none⟩ = some (.bool a0_0) := (blk_cell BK133.out 0).trans rfl
              have hcz47_1 : wr.cell? ⟨gb133, 1, none⟩ = some (.bool a0_1) := (blk_cell BK133.out 1).trans rfl
              have hcz47_2 : wr.cell? ⟨gb133, 2, none⟩ = some (.bool a0_2) := (blk_cell BK133.out 2).trans rfl
              have hcz47_3 : wr.cell? ⟨gb133, 3, none⟩ = some (.string a0_3) := (blk_cell BK133.out 3).trans rfl
              have hcz47_4 : wr.cell? ⟨gb133, 4, none⟩ = some (.slice A0_4 l0_4.length c0_4) := (blk_cell BK133.out 4).trans rfl
              have hcz47_5 : wr.cell? ⟨gb133, 5, none⟩ = some (.slice A0_5 l0_5.length c0_5) := (blk_cell BK133.out 5).trans rfl
              have hfz47_0 := blk_frozen BK133.out 0
              have hfz47_1 := blk_frozen BK133.out 1
              have hfz47_2 := blk_frozen BK133.out 2
              have hfz47_3 := blk_frozen BK133.out 3
              have hfz47_4 := blk_frozen BK133.out 4
              have hfz47_5 := blk_frozen BK133.out 5
              go_wp2
              repeat (go_quiet (fail); try go_wp2)
              go_ret
              exact ⟨by first | rfl | (simp [errW_none, errW_some] <;> rfl) | (simp [*, errW_none, errW_some] <;> rfl), by repeat (first | (with_reducible first | exact HB.out | apply below_alloc | apply pw_below_drewN | apply below_drew1 | refine below_set ?_ GE133.out | refine below_set ?_ GE134.out) | exact HB.out)⟩
end Go.Proofs.YtiohiiekaofkbaaGreatDoor.PNamesReads
/- Back: the program's names, as the document's; the document's Same of names and themselves. -/
namespace Go.Proofs.YtiohiiekaofkbaaGreatDoor
set_option linter.unusedVariables false
set_option linter.unusedSimpArgs false
open Go.RowKit Go.Proofs.YtiohiiekaofkbaaGreatDoor.PNamesReads Go.Proofs.YtiohiiekaofkbaaGreatDoorW.PrintWords
def dNs.at (x : dNs) (A : Option Addr) (c : Nat) (B : Option Addr) (d : Nat) (w : World) : Prop := Kd.C k182 w A x.fs.length x.fs ∧ x.fs.length ≤ c ∧ Kd.C k86 w B x.ls.length x.ls ∧ x.ls.length ≤ d
theorem dNs.at.below {x : dNs} {A : Option Addr} {c : Nat} {B : Option Addr} {d : Nat} {w W : World} (h : x.at A c B d w) (hb : Below w.heap.size w W) : x.at A c B d W := ⟨Kd.C_below h.1 hb, h.2.1, Kd.C_below h.2.2.1 hb, h.2.2.2⟩
def Ns.back (x : Ns) : dNs := ⟨x.hm, x.hf, x.hl, x.md, x.fs.map frN, x.ls.map frL⟩
theorem rd_NameG (l : List S149) (i : Nat) (h : i < l.length) : rd_T149 l i = l[i] := by simp [rd_T149, List.getD_eq_getElem?_getD, List.getElem?_eq_getElem h]
theorem rd_LocalG (l : List S90) (i : Nat) (h : i < l.length) : rd_T90 l i = l[i] := by simp [rd_T90, List.getD_eq_getElem?_getD, List.getElem?_eq_getElem h]
theorem rd_rLocalG (l : List S86) (i : Nat) (h : i < l.length) : rd_T86 l i = l[i] := by simp [rd_T86, List.getD_eq_getElem?_getD, List.getElem?_eq_getElem h]
theorem backList_loop (l : List S149) (hl : l.length ≤ 3000) (d : Nat) : ∀ (i k : Nat), i + d = l.length → d < k → dobbylaw14_backList.l0 k l ((l.take i).map frN) i = some (l.map frN) := by
  induction d with
  | zero =>
    intro i k hi hk
    obtain ⟨k, rfl⟩ : ∃ m, k = m + 1 := ⟨k - 1, by omega⟩
    simp only [dobbylaw14_backList.l0]
    rw [if_neg (by omega), List.take_of_length_le (by omega)]
  | succ d ih =>
    intro i k hi hk
    obtain ⟨k, rfl⟩ : ∃ m, k = m + 1 := ⟨k - 1, by omega⟩
    simp only [dobbylaw14_backList.l0]
    rw [if_pos (by omega), if_pos (by omega), if_pos (by rw [List.length_map, List.length_take]; omega), show wrap64 ((i : Int) + 1) = ((i + 1 : Nat) : Int) by unfold wrap64; omega]
    have : (l.take i).map frN ++ [(⟨(rd_T149 l i).f0, (rd_T149 l i).f1⟩ : S182)] = (l.take (i + 1)).map frN := by
      rw [List.take_succ_eq_append_getElem (by omega), List.map_append, rd_NameG l i (by omega)]; rfl
    rw [this]
    exact ih (i + 1) k (by omega) (by omega)
theorem backList_some (l : List S149) (hl : l.length ≤ 3000) {k : Nat} (hk : l.length < k) : dobbylaw14_backList.f k l = some (l.map frN) := by
  have := backList_loop l hl l.length 0 k (by omega) hk
  exact this
theorem back_loop (b1 b2 b3 : Bool) (md : ByteArray) (fs : List S149) (ls : List S90) (hl : ls.length ≤ 3000) (hn : ∀ i : Nat, i < ls.length → (rd_T90 ls i).f1.length ≤ 3000) (ff : List S182) (d : Nat) : ∀ (i k : Nat), i + d = ls.length → d + 3001 < k →
    dobbylaw14_Back.l0 k i b1 b2 b3 md fs ls b1 b2 b3 md ff ((ls.take i).map frL) = some (b1, b2, b3, md, ff, ls.map frL) := by
  induction d with
  | zero =>
    intro i k hi hk
    obtain ⟨k, rfl⟩ : ∃ m, k = m + 1 := ⟨k - 1, by omega⟩
    simp only [dobbylaw14_Back.l0]
    rw [if_neg (by omega), List.take_of_length_le (by omega)]
  | succ d ih =>
    intro i k hi hk
    obtain ⟨k, rfl⟩ : ∃ m, k = m + 1 := ⟨k - 1, by omega⟩
    have := hn i (by omega)
    simp only [dobbylaw14_Back.l0]
    rw [if_pos (by omega), if_pos (by omega), backList_some _ this (by omega), Option.bind_some, if_pos (by rw [List.length_map, List.length_take]; omega), show wrap64 ((i : Int) + 1) = ((i + 1 : Nat) : Int) by unfold wrap64; omega]
    have : (ls.take i).map frL ++ [(⟨(rd_T90 ls i).f0, (rd_T90 ls i).f1.map frN⟩ : S86)] = (ls.take (i + 1)).map frL := by
      rw [List.take_succ_eq_append_getElem (by omega), List.map_append, rd_LocalG ls i (by omega)]; rfl
    rw [this]
    exact ih (i + 1) k (by omega) (by omega)
def Ns.some3 (x : Ns) : Prop := x.fs.length ≤ 3000 ∧ x.ls.length ≤ 3000 ∧ ∀ i : Nat, i < x.ls.length → (rd_T90 x.ls i).f1.length ≤ 3000
theorem back_some (x : Ns) (h : x.some3) : dobbylaw14_Back.f 6010 x.hm x.hf x.hl x.md x.fs x.ls = some (x.back.hm, x.back.hf, x.back.hl, x.back.md, x.back.fs, x.back.ls) := by
  obtain ⟨h1, h2, h3⟩ := h
  unfold dobbylaw14_Back.f
  rw [backList_some _ h1 (by omega), Option.bind_some]
  have := back_loop x.hm x.hf x.hl x.md x.fs x.ls h2 h3 (x.fs.map frN) x.ls.length 0 6010 (by omega) (by omega)
  exact this
theorem back_walk (x : Ns) (A : Option Addr) (c : Nat) (B : Option Addr) (d : Nat) (w : World) (hx : x.at A c B d w) (h : x.some3) :
    Calls Tryz.prog 7 #[.agg #[.bool x.hm, .bool x.hf, .bool x.hl, .string x.md, .slice A x.fs.length c, .slice B x.ls.length d]] w fun e w' => ∃ A' c' B' d', e = .returned (.agg #[.bool x.back.hm, .bool x.back.hf, .bool x.back.hl, .string x.back.md, .slice A' x.back.fs.length c', .slice B' x.back.ls.length d']) ∧ x.back.at A' c' B' d' w' ∧ Below w.heap.size w w' := by
  refine (dobbylaw14_Back.calls 6010 x.hm x.hf x.hl x.md A c x.fs B d x.ls _ _ _ _ _ _ w hx.1 hx.2.1 hx.2.2.1 hx.2.2.2 (back_some x h)).mono ?_
  rintro e w' ⟨v4, v5, rfl, r4, r5, hb⟩
  obtain ⟨A', c', rfl, l4, q4⟩ := Kd.R_reads r4
  obtain ⟨B', d', rfl, l5, q5⟩ := Kd.S_reads r5
  exact ⟨A', c', B', d', rfl, ⟨q4, l4, q5, l5⟩, hb⟩
theorem alike_self (l : List S182) (hm : l.length ≤ 3000) (d : Nat) : ∀ (i k : Nat), i + d = l.length → d < k → dobbyref14_alike.l0 k l l i = some true := by
  induction d with
  | zero =>
    intro i k hi hk
    obtain ⟨k, rfl⟩ : ∃ m, k = m + 1 := ⟨k - 1, by omega⟩
    simp only [dobbyref14_alike.l0]
    rw [if_neg (by omega)]
  | succ d ih =>
    intro i k hi hk
    obtain ⟨k, rfl⟩ : ∃ m, k = m + 1 := ⟨k - 1, by omega⟩
    simp only [dobbyref14_alike.l0]
    rw [if_pos (by omega), if_pos (by omega), if_pos (by omega), if_neg (by simp), show wrap64 ((i : Int) + 1) = ((i + 1 : Nat) : Int) by unfold wrap64; omega]
    exact ih (i + 1) k (by omega) (by omega)
theorem alike_true (l : List S182) (hm : l.length ≤ 3000) {k : Nat} (hk : l.length < k) : dobbyref14_alike.f k l l = some true := by
  unfold dobbyref14_alike.f
  rw [if_pos rfl]
  exact alike_self l hm l.length 0 k (by omega) hk
def dNs.some3 (x : dNs) : Prop := x.fs.length ≤ 3000 ∧ x.ls.length ≤ 3000 ∧ ∀ i : Nat, i < x.ls.length → (rd_T86 x.ls i).f1.length ≤ 3000
theorem same_self (x : dNs) (h : x.some3) (d : Nat) : ∀ (i k : Nat), i + d = x.ls.length → d + 3001 < k → dobbyref14_Same.l0 k i x.hm x.hf x.hl x.md x.fs x.ls x.hm x.hf x.hl x.md x.fs x.ls = some true := by
  induction d with
  | zero =>
    intro i k hi hk
    obtain ⟨k, rfl⟩ : ∃ m, k = m + 1 := ⟨k - 1, by omega⟩
    simp only [dobbyref14_Same.l0]
    rw [if_neg (by omega)]
  | succ d ih =>
    intro i k hi hk
    obtain ⟨k, rfl⟩ : ∃ m, k = m + 1 := ⟨k - 1, by omega⟩
    have hl := h.2.1
    have hn := h.2.2 i (by omega)
    simp only [dobbyref14_Same.l0]
    rw [if_pos (by omega), if_pos (by omega), if_pos (by omega), if_pos trivial, alike_true _ hn (by omega), Option.bind_some, if_pos rfl, show wrap64 ((i : Int) + 1) = ((i + 1 : Nat) : Int) by unfold wrap64; omega]
    exact ih (i + 1) k (by omega) (by omega)
theorem same_true (x : dNs) (h : x.some3) : dobbyref14_Same.f 6100 x.hm x.hf x.hl x.md x.fs x.ls x.hm x.hf x.hl x.md x.fs x.ls = some true := by
  unfold dobbyref14_Same.f
  rw [if_neg (by simp), if_neg (by simp), if_neg (by simp), if_pos rfl, alike_true _ h.1 (by have := h.1; omega), Option.bind_some, if_pos rfl]
  simp only [dobbyref14_Same.j0]
  rw [if_neg (by simp)]
  exact same_self x h x.ls.length 0 _ (by omega) (by have := h.2.1; omega)
theorem dsame_walk (x : dNs) (A : Option Addr) (c : Nat) (B : Option Addr) (d : Nat) (A' : Option Addr) (c' : Nat) (B' : Option Addr) (d' : Nat) (w : World) (hx : x.at A c B d w) (hy : x.at A' c' B' d' w) (h : x.some3) :
    Calls Tryz.prog 6 #[.agg #[.bool x.hm, .bool x.hf, .bool x.hl, .string x.md, .slice A x.fs.length c, .slice B x.ls.length d], .agg #[.bool x.hm, .bool x.hf, .bool x.hl, .string x.md, .slice A' x.fs.length c', .slice B' x.ls.length d']] w fun e w' => e = .returned (.bool true) ∧ Below w.heap.size w w' :=
  dobbyref14_Same.calls 6100 x.hm x.hf x.hl x.md A c x.fs B d x.ls x.hm x.hf x.hl x.md A' c' x.fs B' d' x.ls true w hx.1 hx.2.1 hx.2.2.1 hx.2.2.2 hy.1 hy.2.1 hy.2.2.1 hy.2.2.2 (same_true x h)
end Go.Proofs.YtiohiiekaofkbaaGreatDoor
