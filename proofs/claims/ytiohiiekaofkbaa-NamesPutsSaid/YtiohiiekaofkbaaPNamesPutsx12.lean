-- PRINTED BY print.sh 35421559b90ae4d0a3588c463048766b98c2df88dd9212a6774a882060cdf62d: not written by this session
import Derived.Test.YtiohiiekaofkbaaPNamesPutsx0
import Derived.Test.YtiohiiekaofkbaaPNamesPutsx11
namespace Go.Proofs.Ytiohiiekaofkbaa.PNamesPuts
open Go.RowKit Go.Proofs.YtiohiiekaofkbaaW.PrintWords Go.Proofs.YtiohiiekaofkbaaW.PrintLast Go.Proofs.YtiohiiekaofkbaaW.PrintMore
attribute [local go_sem] max2_int min2_int max_two min_two max_three min_three max_four min_four   -- for this text's walks alone
set_option linter.unusedVariables false
set_option linter.unusedSimpArgs false

/-! ### dobbyref14_Same: function 10 -/
mutual
def dobbyref14_Same.j0 : Nat → Bool → Bool → Bool → Bool → ByteArray → List (S41) → List (S43) → Bool → Bool → Bool → ByteArray → List (S41) → List (S43) → Option (Bool)
  | 0, _, _, _, _, _, _, _, _, _, _, _, _, _ => none
  | k + 1, x48, x209000, x209001, x209002, x209003, x209004, x209005, x210000, x210001, x210002, x210003, x210004, x210005 => if x48 = true then (some false) else (dobbyref14_Same.l0 k 0 x209000 x209001 x209002 x209003 x209004 x209005 x210000 x210001 x210002 x210003 x210004 x210005)
def dobbyref14_Same.l0 : Nat → Int → Bool → Bool → Bool → ByteArray → List (S41) → List (S43) → Bool → Bool → Bool → ByteArray → List (S41) → List (S43) → Option (Bool)
  | 0, _, _, _, _, _, _, _, _, _, _, _, _, _ => none
  | k + 1, x5, x209000, x209001, x209002, x209003, x209004, x209005, x210000, x210001, x210002, x210003, x210004, x210005 => if x5 < (x209005.length : Int) then (if 0 ≤ x5 then (if x5 < (x210005.length : Int) then (if ((rd_T43 x209005 x5).f0) = ((rd_T43 x210005 x5).f0) then ((dobbyref14_alike.f k ((rd_T43 x209005 x5).f1) ((rd_T43 x210005 x5).f1)).bind fun t215 => (if t215 = true then (dobbyref14_Same.l0 k (wrap64 (x5 + 1)) x209000 x209001 x209002 x209003 x209004 x209005 x210000 x210001 x210002 x210003 x210004 x210005) else (some false))) else (some false)) else (none)) else (none)) else (some true)
end
def dobbyref14_Same.f (k : Nat) (a0_0 : Bool) (a0_1 : Bool) (a0_2 : Bool) (a0_3 : ByteArray) (l0_4 : List (S41)) (l0_5 : List (S43)) (a1_0 : Bool) (a1_1 : Bool) (a1_2 : Bool) (a1_3 : ByteArray) (l1_4 : List (S41)) (l1_5 : List (S43)) : Option (Bool) := if (a0_0 != a1_0) = true then (dobbyref14_Same.j0 k true a0_0 a0_1 a0_2 a0_3 l0_4 l0_5 a1_0 a1_1 a1_2 a1_3 l1_4 l1_5) else (if (a0_1 != a1_1) = true then (dobbyref14_Same.j0 k true a0_0 a0_1 a0_2 a0_3 l0_4 l0_5 a1_0 a1_1 a1_2 a1_3 l1_4 l1_5) else (if (a0_2 != a1_2) = true then (dobbyref14_Same.j0 k true a0_0 a0_1 a0_2 a0_3 l0_4 l0_5 a1_0 a1_1 a1_2 a1_3 l1_4 l1_5) else (if a0_3.toList = a1_3.toList then ((dobbyref14_alike.f k l0_4 l1_4).bind fun t210 => (if t210 = true then (dobbyref14_Same.j0 k ((l0_5.length : Int) != (l1_5.length : Int)) a0_0 a0_1 a0_2 a0_3 l0_4 l0_5 a1_0 a1_1 a1_2 a1_3 l1_4 l1_5) else (dobbyref14_Same.j0 k true a0_0 a0_1 a0_2 a0_3 l0_4 l0_5 a1_0 a1_1 a1_2 a1_3 l1_4 l1_5))) else (dobbyref14_Same.j0 k true a0_0 a0_1 a0_2 a0_3 l0_4 l0_5 a1_0 a1_1 a1_2 a1_3 l1_4 l1_5))))
theorem dobbyref14_Same.mono_l : ∀ k, (∀ y0 y1 y2 y3 y4 y5 y6 y7 y8 y9 y10 y11 y12, LeO (dobbyref14_Same.j0 k y0 y1 y2 y3 y4 y5 y6 y7 y8 y9 y10 y11 y12) (dobbyref14_Same.j0 (k + 1) y0 y1 y2 y3 y4 y5 y6 y7 y8 y9 y10 y11 y12)) ∧ (∀ y0 y1 y2 y3 y4 y5 y6 y7 y8 y9 y10 y11 y12, LeO (dobbyref14_Same.l0 k y0 y1 y2 y3 y4 y5 y6 y7 y8 y9 y10 y11 y12) (dobbyref14_Same.l0 (k + 1) y0 y1 y2 y3 y4 y5 y6 y7 y8 y9 y10 y11 y12))
  | 0 => ⟨fun _ _ _ _ _ _ _ _ _ _ _ _ _ r h => by simp [dobbyref14_Same.j0] at h, fun _ _ _ _ _ _ _ _ _ _ _ _ _ r h => by simp [dobbyref14_Same.l0] at h⟩
  | k + 1 => by
    obtain ⟨ih0, ih1⟩ := dobbyref14_Same.mono_l k
    refine ⟨?_, ?_⟩
    · intro y0 y1 y2 y3 y4 y5 y6 y7 y8 y9 y10 y11 y12
      unfold dobbyref14_Same.j0
      repeat' first
      | (with_reducible exact ih0 _ _ _ _ _ _ _ _ _ _ _ _ _)
      | (with_reducible exact ih1 _ _ _ _ _ _ _ _ _ _ _ _ _)
      | (with_reducible exact dobbyref14_alike.mono _ _ _)
      | (with_reducible exact LeO.refl _)
      | (with_reducible exact LeO.none _)
      | (with_reducible refine LeO.ite ?_ ?_)
      | (with_reducible refine LeO.bind ?_ (fun _ => ?_))
      | exact ih0 _ _ _ _ _ _ _ _ _ _ _ _ _
      | exact ih1 _ _ _ _ _ _ _ _ _ _ _ _ _
      | exact dobbyref14_alike.mono _ _ _
      | exact LeO.none _
      | refine LeO.ite ?_ ?_
      | refine LeO.bind ?_ (fun _ => ?_)
    · intro y0 y1 y2 y3 y4 y5 y6 y7 y8 y9 y10 y11 y12
      unfold dobbyref14_Same.l0
      repeat' first
      | (with_reducible exact ih0 _ _ _ _ _ _ _ _ _ _ _ _ _)
      | (with_reducible exact ih1 _ _ _ _ _ _ _ _ _ _ _ _ _)
      | (with_reducible exact dobbyref14_alike.mono _ _ _)
      | (with_reducible exact LeO.refl _)
      | (with_reducible exact LeO.none _)
      | (with_reducible refine LeO.ite ?_ ?_)
      | (with_reducible refine LeO.bind ?_ (fun _ => ?_))
      | exact ih0 _ _ _ _ _ _ _ _ _ _ _ _ _
      | exact ih1 _ _ _ _ _ _ _ _ _ _ _ _ _
      | exact dobbyref14_alike.mono _ _ _
      | exact LeO.none _
      | refine LeO.ite ?_ ?_
      | refine LeO.bind ?_ (fun _ => ?_)
theorem dobbyref14_Same.mono : ∀ a0 a1 a2 a3 a4 a5 a6 a7 a8 a9 a10 a11 k, LeO (dobbyref14_Same.f k a0 a1 a2 a3 a4 a5 a6 a7 a8 a9 a10 a11) (dobbyref14_Same.f (k + 1) a0 a1 a2 a3 a4 a5 a6 a7 a8 a9 a10 a11) := by
  intro a0 a1 a2 a3 a4 a5 a6 a7 a8 a9 a10 a11 k
  obtain ⟨ih0, ih1⟩ := dobbyref14_Same.mono_l k
  unfold dobbyref14_Same.f
  repeat' first
      | (with_reducible exact ih0 _ _ _ _ _ _ _ _ _ _ _ _ _)
      | (with_reducible exact ih1 _ _ _ _ _ _ _ _ _ _ _ _ _)
      | (with_reducible exact dobbyref14_alike.mono _ _ _)
      | (with_reducible exact LeO.refl _)
      | (with_reducible exact LeO.none _)
      | (with_reducible refine LeO.ite ?_ ?_)
      | (with_reducible refine LeO.bind ?_ (fun _ => ?_))
      | exact ih0 _ _ _ _ _ _ _ _ _ _ _ _ _
      | exact ih1 _ _ _ _ _ _ _ _ _ _ _ _ _
      | exact dobbyref14_alike.mono _ _ _
      | exact LeO.none _
      | refine LeO.ite ?_ ?_
      | refine LeO.bind ?_ (fun _ => ?_)
set_option maxHeartbeats 8000000 in
set_option maxRecDepth 100000 in
theorem dobbyref14_Same.calls (k : Nat) (a0_0 : Bool) (a0_1 : Bool) (a0_2 : Bool) (a0_3 : ByteArray) (A0_4 : Option Addr) (c0_4 : Nat) (l0_4 : List (S41)) (A0_5 : Option Addr) (c0_5 : Nat) (l0_5 : List (S43)) (a1_0 : Bool) (a1_1 : Bool) (a1_2 : Bool) (a1_3 : ByteArray) (A1_4 : Option Addr) (c1_4 : Nat) (l1_4 : List (S41)) (A1_5 : Option Addr) (c1_5 : Nat) (l1_5 : List (S43)) (r : Bool) (w : World) (hr0_4 : Kd.C k41 w A0_4 l0_4.length l0_4) (hc0_4 : l0_4.length ≤ c0_4) (hr0_5 : Kd.C k43 w A0_5 l0_5.length l0_5) (hc0_5 : l0_5.length ≤ c0_5) (hr1_4 : Kd.C k41 w A1_4 l1_4.length l1_4) (hc1_4 : l1_4.length ≤ c1_4) (hr1_5 : Kd.C k43 w A1_5 l1_5.length l1_5) (hc1_5 : l1_5.length ≤ c1_5) (h : dobbyref14_Same.f k a0_0 a0_1 a0_2 a0_3 l0_4 l0_5 a1_0 a1_1 a1_2 a1_3 l1_4 l1_5 = some r) :
    Calls Try.prog 10 #[.agg #[.bool a0_0, .bool a0_1, .bool a0_2, .string a0_3, .slice A0_4 l0_4.length c0_4, .slice A0_5 l0_5.length c0_5], .agg #[.bool a1_0, .bool a1_1, .bool a1_2, .string a1_3, .slice A1_4 l1_4.length c1_4, .slice A1_5 l1_5.length c1_5]] w fun e w' => e = .returned (.bool r) ∧ Below w.heap.size w w' := by
  have hu25 := Try.underlying25
  have HR0_4 := Aside0.mk hr0_4
  have HC0_4 := Aside0.mk hc0_4
  clear hr0_4 hc0_4
  have HR0_5 := Aside0.mk hr0_5
  have HC0_5 := Aside0.mk hc0_5
  clear hr0_5 hc0_5
  have HR1_4 := Aside0.mk hr1_4
  have HC1_4 := Aside0.mk hc1_4
  clear hr1_4 hc1_4
  have HR1_5 := Aside0.mk hr1_5
  have HC1_5 := Aside0.mk hc1_5
  clear hr1_5 hc1_5
  have HB := Aside0.mk (Below.refl w.heap.size w)
  have H : (if (a0_0 != a1_0) = true then (dobbyref14_Same.j0 k true a0_0 a0_1 a0_2 a0_3 l0_4 l0_5 a1_0 a1_1 a1_2 a1_3 l1_4 l1_5) else (if (a0_1 != a1_1) = true then (dobbyref14_Same.j0 k true a0_0 a0_1 a0_2 a0_3 l0_4 l0_5 a1_0 a1_1 a1_2 a1_3 l1_4 l1_5) else (if (a0_2 != a1_2) = true then (dobbyref14_Same.j0 k true a0_0 a0_1 a0_2 a0_3 l0_4 l0_5 a1_0 a1_1 a1_2 a1_3 l1_4 l1_5) else (if a0_3.toList = a1_3.toList then ((dobbyref14_alike.f k l0_4 l1_4).bind fun t210 => (if t210 = true then (dobbyref14_Same.j0 k ((l0_5.length : Int) != (l1_5.length : Int)) a0_0 a0_1 a0_2 a0_3 l0_4 l0_5 a1_0 a1_1 a1_2 a1_3 l1_4 l1_5) else (dobbyref14_Same.j0 k true a0_0 a0_1 a0_2 a0_3 l0_4 l0_5 a1_0 a1_1 a1_2 a1_3 l1_4 l1_5))) else (dobbyref14_Same.j0 k true a0_0 a0_1 a0_2 a0_3 l0_4 l0_5 a1_0 a1_1 a1_2 a1_3 l1_4 l1_5))))) = some r := h
  clear h
  have HC3 := Aside0.mk H
  clear H
  go_enter Try.func10, Try.ntmps10
  go_upto_region 1 with (first | ((with_reducible refine gate_dst (N := 2) rfl ?_); (try (refine gate_guard (by rfl) ?_; dsimp only)); refine box_event ?hg (N := 2) ?hd (cs := #[.bool a0_0, .bool a0_1, .bool a0_2, .string a0_3, .slice A0_4 l0_4.length c0_4, .slice A0_5 l0_5.length c0_5]) (t := 25) ?hr ?_; (case hd => rfl); (case hg => rfl); (case hr => first | (go_simp; done) | (go_simp; rfl)); intro gb208 hg w4 hbox hb; have n0_ := Aside0.mk (below_step (by repeat (first | (with_reducible first | exact HB.out | apply below_alloc | apply pw_below_drewN | apply below_drew1) | exact HB.out)) hb); have n1_ := Aside0.mk (hbox); have n2_ := Aside0.mk ((by rw [hg]; exact (below_size (by repeat (first | (with_reducible first | exact HB.out | apply below_alloc | apply pw_below_drewN | apply below_drew1) | exact HB.out))) : w.heap.size ≤ gb208)); have n3_ := Aside0.mk ((by rw [hg]; exact (below_size (by repeat (first | (with_reducible first | exact HB.out | apply below_alloc | apply pw_below_drewN | apply below_drew1) | exact HB.out))) : w.heap.size ≤ gb208)); clear HB; have HB := n0_; have BK208 := n1_; have GW208 := n2_; have GE208 := n3_; clear n0_ n1_ n2_ n3_; clear hb hbox hg) | ((with_reducible refine gate_dst (N := 3) rfl ?_); (try (refine gate_guard (by rfl) ?_; dsimp only)); refine box_event ?hg (N := 3) ?hd (cs := #[.bool a1_0, .bool a1_1, .bool a1_2, .string a1_3, .slice A1_4 l1_4.length c1_4, .slice A1_5 l1_5.length c1_5]) (t := 25) ?hr ?_; (case hd => rfl); (case hg => rfl); (case hr => first | (go_simp; done) | (go_simp; rfl)); intro gb209 hg w5 hbox hb; have n0_ := Aside0.mk (blk_below (g := gb208) (o := .cells #[.bool a0_0, .bool a0_1, .bool a0_2, .string a0_3, .slice A0_4 l0_4.length c0_4, .slice A0_5 l0_5.length c0_5] 25 (0, 0)) (by (with_reducible repeat (first | refine blk_drewN ?_ _ | refine blk_drew ?_ | refine blk_alloc ?_ _)); exact BK208.out) hb); have n1_ := Aside0.mk (below_step (by repeat (first | (with_reducible first | exact HB.out | apply below_alloc | apply pw_below_drewN | apply below_drew1 | refine below_set ?_ GE208.out) | exact HB.out)) hb); have n2_ := Aside0.mk (hbox); have n3_ := Aside0.mk ((by rw [hg]; exact (below_size (by repeat (first | (with_reducible first | exact HB.out | apply below_alloc | apply pw_below_drewN | apply below_drew1 | refine below_set ?_ GE208.out) | exact HB.out))) : w.heap.size ≤ gb209)); have n4_ := Aside0.mk ((by rw [hg]; exact (below_size (by repeat (first | (with_reducible first | exact HB.out | apply below_alloc | apply pw_below_drewN | apply below_drew1 | refine below_set ?_ GE208.out) | exact HB.out))) : w.heap.size ≤ gb209)); have n5_ := Aside0.mk ((by rw [hg]; exact Nat.ne_of_lt (blk_lt (g := gb208) (o := .cells #[.bool a0_0, .bool a0_1, .bool a0_2, .string a0_3, .slice A0_4 l0_4.length c0_4, .slice A0_5 l0_5.length c0_5] 25 (0, 0)) (by (with_reducible repeat (first | refine blk_drewN ?_ _ | refine blk_drew ?_ | refine blk_alloc ?_ _)); exact BK208.out)) : gb208 ≠ gb209)); have n6_ := Aside0.mk ((by rw [hg]; exact Nat.ne_of_gt (blk_lt (g := gb208) (o := .cells #[.bool a0_0, .bool a0_1, .bool a0_2, .string a0_3, .slice A0_4 l0_4.length c0_4, .slice A0_5 l0_5.length c0_5] 25 (0, 0)) (by (with_reducible repeat (first | refine blk_drewN ?_ _ | refine blk_drew ?_ | refine blk_alloc ?_ _)); exact BK208.out)) : gb209 ≠ gb208)); clear BK208; clear HB; have BK208 := n0_; have HB := n1_; have BK209 := n2_; have GW209 := n3_; have GE209 := n4_; have NB208_209 := n5_; have NB209_208 := n6_; clear n0_ n1_ n2_ n3_ n4_ n5_ n6_; clear hb hbox hg))
  repeat (go_quiet (first | ((with_reducible refine gate_dst (N := 2) rfl ?_); (try (refine gate_guard (by rfl) ?_; dsimp only)); refine box_event ?hg (N := 2) ?hd (cs := #[.bool a0_0, .bool a0_1, .bool a0_2, .string a0_3, .slice A0_4 l0_4.length c0_4, .slice A0_5 l0_5.length c0_5]) (t := 25) ?hr ?_; (case hd => rfl); (case hg => rfl); (case hr => first | (go_simp; done) | (go_simp; rfl)); intro gb208 hg w4 hbox hb; have n0_ := Aside0.mk (below_step (by repeat (first | (with_reducible first | exact HB.out | apply below_alloc | apply pw_below_drewN | apply below_drew1) | exact HB.out)) hb); have n1_ := Aside0.mk (hbox); have n2_ := Aside0.mk ((by rw [hg]; exact (below_size (by repeat (first | (with_reducible first | exact HB.out | apply below_alloc | apply pw_below_drewN | apply below_drew1) | exact HB.out))) : w.heap.size ≤ gb208)); have n3_ := Aside0.mk ((by rw [hg]; exact (below_size (by repeat (first | (with_reducible first | exact HB.out | apply below_alloc | apply pw_below_drewN | apply below_drew1) | exact HB.out))) : w.heap.size ≤ gb208)); clear HB; have HB := n0_; have BK208 := n1_; have GW208 := n2_; have GE208 := n3_; clear n0_ n1_ n2_ n3_; clear hb hbox hg) | ((with_reducible refine gate_dst (N := 3) rfl ?_); (try (refine gate_guard (by rfl) ?_; dsimp only)); refine box_event ?hg (N := 3) ?hd (cs := #[.bool a1_0, .bool a1_1, .bool a1_2, .string a1_3, .slice A1_4 l1_4.length c1_4, .slice A1_5 l1_5.length c1_5]) (t := 25) ?hr ?_; (case hd => rfl); (case hg => rfl); (case hr => first | (go_simp; done) | (go_simp; rfl)); intro gb209 hg w5 hbox hb; have n0_ := Aside0.mk (blk_below (g := gb208) (o := .cells #[.bool a0_0, .bool a0_1, .bool a0_2, .string a0_3, .slice A0_4 l0_4.length c0_4, .slice A0_5 l0_5.length c0_5] 25 (0, 0)) (by (with_reducible repeat (first | refine blk_drewN ?_ _ | refine blk_drew ?_ | refine blk_alloc ?_ _)); exact BK208.out) hb); have n1_ := Aside0.mk (below_step (by repeat (first | (with_reducible first | exact HB.out | apply below_alloc | apply pw_below_drewN | apply below_drew1 | refine below_set ?_ GE208.out) | exact HB.out)) hb); have n2_ := Aside0.mk (hbox); have n3_ := Aside0.mk ((by rw [hg]; exact (below_size (by repeat (first | (with_reducible first | exact HB.out | apply below_alloc | apply pw_below_drewN | apply below_drew1 | refine below_set ?_ GE208.out) | exact HB.out))) : w.heap.size ≤ gb209)); have n4_ := Aside0.mk ((by rw [hg]; exact (below_size (by repeat (first | (with_reducible first | exact HB.out | apply below_alloc | apply pw_below_drewN | apply below_drew1 | refine below_set ?_ GE208.out) | exact HB.out))) : w.heap.size ≤ gb209)); have n5_ := Aside0.mk ((by rw [hg]; exact Nat.ne_of_lt (blk_lt (g := gb208) (o := .cells #[.bool a0_0, .bool a0_1, .bool a0_2, .string a0_3, .slice A0_4 l0_4.length c0_4, .slice A0_5 l0_5.length c0_5] 25 (0, 0)) (by (with_reducible repeat (first | refine blk_drewN ?_ _ | refine blk_drew ?_ | refine blk_alloc ?_ _)); exact BK208.out)) : gb208 ≠ gb209)); have n6_ := Aside0.mk ((by rw [hg]; exact Nat.ne_of_gt (blk_lt (g := gb208) (o := .cells #[.bool a0_0, .bool a0_1, .bool a0_2, .string a0_3, .slice A0_4 l0_4.length c0_4, .slice A0_5 l0_5.length c0_5] 25 (0, 0)) (by (with_reducible repeat (first | refine blk_drewN ?_ _ | refine blk_drew ?_ | refine blk_alloc ?_ _)); exact BK208.out)) : gb209 ≠ gb208)); clear BK208; clear HB; have BK208 := n0_; have HB := n1_; have BK209 := n2_; have GW209 := n3_; have GE209 := n4_; have NB208_209 := n5_; have NB209_208 := n6_; clear n0_ n1_ n2_ n3_ n4_ n5_ n6_; clear hb hbox hg)); go_upto_region 1 with (first | ((with_reducible refine gate_dst (N := 2) rfl ?_); (try (refine gate_guard (by rfl) ?_; dsimp only)); refine box_event ?hg (N := 2) ?hd (cs := #[.bool a0_0, .bool a0_1, .bool a0_2, .string a0_3, .slice A0_4 l0_4.length c0_4, .slice A0_5 l0_5.length c0_5]) (t := 25) ?hr ?_; (case hd => rfl); (case hg => rfl); (case hr => first | (go_simp; done) | (go_simp; rfl)); intro gb208 hg w4 hbox hb; have n0_ := Aside0.mk (below_step (by repeat (first | (with_reducible first | exact HB.out | apply below_alloc | apply pw_below_drewN | apply below_drew1) | exact HB.out)) hb); have n1_ := Aside0.mk (hbox); have n2_ := Aside0.mk ((by rw [hg]; exact (below_size (by repeat (first | (with_reducible first | exact HB.out | apply below_alloc | apply pw_below_drewN | apply below_drew1) | exact HB.out))) : w.heap.size ≤ gb208)); have n3_ := Aside0.mk ((by rw [hg]; exact (below_size (by repeat (first | (with_reducible first | exact HB.out | apply below_alloc | apply pw_below_drewN | apply below_drew1) | exact HB.out))) : w.heap.size ≤ gb208)); clear HB; have HB := n0_; have BK208 := n1_; have GW208 := n2_; have GE208 := n3_; clear n0_ n1_ n2_ n3_; clear hb hbox hg) | ((with_reducible refine gate_dst (N := 3) rfl ?_); (try (refine gate_guard (by rfl) ?_; dsimp only)); refine box_event ?hg (N := 3) ?hd (cs := #[.bool a1_0, .bool a1_1, .bool a1_2, .string a1_3, .slice A1_4 l1_4.length c1_4, .slice A1_5 l1_5.length c1_5]) (t := 25) ?hr ?_; (case hd => rfl); (case hg => rfl); (case hr => first | (go_simp; done) | (go_simp; rfl)); intro gb209 hg w5 hbox hb; have n0_ := Aside0.mk (blk_below (g := gb208) (o := .cells #[.bool a0_0, .bool a0_1, .bool a0_2, .string a0_3, .slice A0_4 l0_4.length c0_4, .slice A0_5 l0_5.length c0_5] 25 (0, 0)) (by (with_reducible repeat (first | refine blk_drewN ?_ _ | refine blk_drew ?_ | refine blk_alloc ?_ _)); exact BK208.out) hb); have n1_ := Aside0.mk (below_step (by repeat (first | (with_reducible first | exact HB.out | apply below_alloc | apply pw_below_drewN | apply below_drew1 | refine below_set ?_ GE208.out) | exact HB.out)) hb); have n2_ := Aside0.mk (hbox); have n3_ := Aside0.mk ((by rw [hg]; exact (below_size (by repeat (first | (with_reducible first | exact HB.out | apply below_alloc | apply pw_below_drewN | apply below_drew1 | refine below_set ?_ GE208.out) | exact HB.out))) : w.heap.size ≤ gb209)); have n4_ := Aside0.mk ((by rw [hg]; exact (below_size (by repeat (first | (with_reducible first | exact HB.out | apply below_alloc | apply pw_below_drewN | apply below_drew1 | refine below_set ?_ GE208.out) | exact HB.out))) : w.heap.size ≤ gb209)); have n5_ := Aside0.mk ((by rw [hg]; exact Nat.ne_of_lt (blk_lt (g := gb208) (o := .cells #[.bool a0_0, .bool a0_1, .bool a0_2, .string a0_3, .slice A0_4 l0_4.length c0_4, .slice A0_5 l0_5.length c0_5] 25 (0, 0)) (by (with_reducible repeat (first | refine blk_drewN ?_ _ | refine blk_drew ?_ | refine blk_alloc ?_ _)); exact BK208.out)) : gb208 ≠ gb209)); have n6_ := Aside0.mk ((by rw [hg]; exact Nat.ne_of_gt (blk_lt (g := gb208) (o := .cells #[.bool a0_0, .bool a0_1, .bool a0_2, .string a0_3, .slice A0_4 l0_4.length c0_4, .slice A0_5 l0_5.length c0_5] 25 (0, 0)) (by (with_reducible repeat (first | refine blk_drewN ?_ _ | refine blk_drew ?_ | refine blk_alloc ?_ _)); exact BK208.out)) : gb209 ≠ gb208)); clear BK208; clear HB; have BK208 := n0_; have HB := n1_; have BK209 := n2_; have GW209 := n3_; have GE209 := n4_; have NB208_209 := n5_; have NB209_208 := n6_; clear n0_ n1_ n2_ n3_ n4_ n5_ n6_; clear hb hbox hg)))
  (try simp only [Act.put, List.setIfInBounds_toArray, List.set_cons_zero, List.set_cons_succ])
  go_cut [48] (fun v48 wc => ∃ (kq : Nat) (x48_2 : Bool), v48 = .bool x48_2 ∧ Aside0 (dobbyref14_Same.j0 kq x48_2 a0_0 a0_1 a0_2 a0_3 l0_4 l0_5 a1_0 a1_1 a1_2 a1_3 l1_4 l1_5 = some r) ∧ Aside0 (kq ≤ k) ∧ Aside0 (wc.heap[gb208]? = some (.cells #[.bool a0_0, .bool a0_1, .bool a0_2, .string a0_3, (.slice A0_4 l0_4.length c0_4), (.slice A0_5 l0_5.length c0_5)] 25 (0, 0))) ∧ Aside0 (wc.heap[gb209]? = some (.cells #[.bool a1_0, .bool a1_1, .bool a1_2, .string a1_3, (.slice A1_4 l1_4.length c1_4), (.slice A1_5 l1_5.length c1_5)] 25 (0, 0))) ∧ Aside0 (Below w.heap.size w wc))
  case first =>
    have H := HC3.out
    clear HC3
    by_cases c6 : (a0_0 != a1_0) = true
    · rw [if_pos c6] at H
      have c6b0 : (a0_0 != a1_0) = true := c6
      (try (have c6b1 : decide (a0_0 = a1_0) = false := by simpa using c6))
      (try (have c6b2 : (a0_0 == a1_0) = false := by simpa using c6))
      (try (have c6b3 : ¬ (a0_0 = a1_0) := by simpa using c6))
      clear c6
      (first | rw [c6b0] | (simp only [i64_w, i32_w]; rw [c6b0]) | skip)
      have H' := Aside0.mk H
      clear H
      have hnb7 := NB208_209.out
      have hnc7 := NB209_208.out
      have hcz8_0 : w5.cell? ⟨gb208, 0, none⟩ = some (.bool a0_0) := (blk_cell BK208.out 0).trans rfl
      have hcz8_1 : w5.cell? ⟨gb208, 1, none⟩ = some (.bool a0_1) := (blk_cell BK208.out 1).trans rfl
      have hcz8_2 : w5.cell? ⟨gb208, 2, none⟩ = some (.bool a0_2) := (blk_cell BK208.out 2).trans rfl
      have hcz8_3 : w5.cell? ⟨gb208, 3, none⟩ = some (.string a0_3) := (blk_cell BK208.out 3).trans rfl
      have hcz8_4 : w5.cell? ⟨gb208, 4, none⟩ = some (.slice A0_4 l0_4.length c0_4) := (blk_cell BK208.out 4).trans rfl
      have hcz8_5 : w5.cell? ⟨gb208, 5, none⟩ = some (.slice A0_5 l0_5.length c0_5) := (blk_cell BK208.out 5).trans rfl
      have hfz8_0 := blk_frozen BK208.out 0
      have hfz8_1 := blk_frozen BK208.out 1
      have hfz8_2 := blk_frozen BK208.out 2
      have hfz8_3 := blk_frozen BK208.out 3
      have hfz8_4 := blk_frozen BK208.out 4
      have hfz8_5 := blk_frozen BK208.out 5
      have hcz9_0 : w5.cell? ⟨gb209, 0, none⟩ = some (.bool a1_0) := (blk_cell BK209.out 0).trans rfl
      have hcz9_1 : w5.cell? ⟨gb209, 1, none⟩ = some (.bool a1_1) := (blk_cell BK209.out 1).trans rfl
      have hcz9_2 : w5.cell? ⟨gb209, 2, none⟩ = some (.bool a1_2) := (blk_cell BK209.out 2).trans rfl
      have hcz9_3 : w5.cell? ⟨gb209, 3, none⟩ = some (.string a1_3) := (blk_cell BK209.out 3).trans rfl
      have hcz9_4 : w5.cell? ⟨gb209, 4, none⟩ = some (.slice A1_4 l1_4.length c1_4) := (blk_cell BK209.out 4).trans rfl
      have hcz9_5 : w5.cell? ⟨gb209, 5, none⟩ = some (.slice A1_5 l1_5.length c1_5) := (blk_cell BK209.out 5).trans rfl
      have hfz9_0 := blk_frozen BK209.out 0
      have hfz9_1 := blk_frozen BK209.out 1
      have hfz9_2 := blk_frozen BK209.out 2
      have hfz9_3 := blk_frozen BK209.out 3
      have hfz9_4 := blk_frozen BK209.out 4
      have hfz9_5 := blk_frozen BK209.out 5
      go_wp2
      repeat (go_quiet (fail); try go_wp2)
      go_meet
      case rel => exact ⟨_, (true), (by first | rfl | (simp; done) | (simp [*]; done)), H', ⟨by first | omega | exact Nat.le_refl _⟩, ⟨by (with_reducible repeat (first | refine blk_drewN ?_ _ | refine blk_drew ?_ | refine blk_alloc ?_ _)); exact BK208.out⟩, ⟨by (with_reducible repeat (first | refine blk_drewN ?_ _ | refine blk_drew ?_ | refine blk_alloc ?_ _)); exact BK209.out⟩, ⟨by repeat (first | (with_reducible first | exact HB.out | apply below_alloc | apply pw_below_drewN | apply below_drew1 | refine below_set ?_ GE208.out | refine below_set ?_ GE209.out) | exact HB.out)⟩⟩
    · rw [if_neg c6] at H
      have c6b0 : (a0_0 != a1_0) = false := by simpa using c6
      (try (have c6b1 : decide (a0_0 = a1_0) = true := by simpa using c6))
      (try (have c6b2 : (a0_0 == a1_0) = true := by simpa using c6))
      clear c6
      (first | rw [c6b0] | (simp only [i64_w, i32_w]; rw [c6b0]) | skip)
      by_cases c10 : (a0_1 != a1_1) = true
      · rw [if_pos c10] at H
        have c10b0 : (a0_1 != a1_1) = true := c10
        (try (have c10b1 : decide (a0_1 = a1_1) = false := by simpa using c10))
        (try (have c10b2 : (a0_1 == a1_1) = false := by simpa using c10))
        (try (have c10b3 : ¬ (a0_1 = a1_1) := by simpa using c10))
        clear c10
        have H' := Aside0.mk H
        clear H
        have hnb11 := NB208_209.out
        have hnc11 := NB209_208.out
        have hcz12_0 : w5.cell? ⟨gb208, 0, none⟩ = some (.bool a0_0) := (blk_cell BK208.out 0).trans rfl
        have hcz12_1 : w5.cell? ⟨gb208, 1, none⟩ = some (.bool a0_1) := (blk_cell BK208.out 1).trans rfl
        have hcz12_2 : w5.cell? ⟨gb208, 2, none⟩ = some (.bool a0_2) := (blk_cell BK208.out 2).trans rfl
        have hcz12_3 : w5.cell? ⟨gb208, 3, none⟩ = some (.string a0_3) := (blk_cell BK208.out 3).trans rfl
        have hcz12_4 : w5.cell? ⟨gb208, 4, none⟩ = some (.slice A0_4 l0_4.length c0_4) := (blk_cell BK208.out 4).trans rfl
        have hcz12_5 : w5.cell? ⟨gb208, 5, none⟩ = some (.slice A0_5 l0_5.length c0_5) := (blk_cell BK208.out 5).trans rfl
        have hfz12_0 := blk_frozen BK208.out 0
        have hfz12_1 := blk_frozen BK208.out 1
        have hfz12_2 := blk_frozen BK208.out 2
        have hfz12_3 := blk_frozen BK208.out 3
        have hfz12_4 := blk_frozen BK208.out 4
        have hfz12_5 := blk_frozen BK208.out 5
        have hcz13_0 : w5.cell? ⟨gb209, 0, none⟩ = some (.bool a1_0) := (blk_cell BK209.out 0).trans rfl
        have hcz13_1 : w5.cell? ⟨gb209, 1, none⟩ = some (.bool a1_1) := (blk_cell BK209.out 1).trans rfl
        have hcz13_2 : w5.cell? ⟨gb209, 2, none⟩ = some (.bool a1_2) := (blk_cell BK209.out 2).trans rfl
        have hcz13_3 : w5.cell? ⟨gb209, 3, none⟩ = some (.string a1_3) := (blk_cell BK209.out 3).trans rfl
        have hcz13_4 : w5.cell? ⟨gb209, 4, none⟩ = some (.slice A1_4 l1_4.length c1_4) := (blk_cell BK209.out 4).trans rfl
        have hcz13_5 : w5.cell? ⟨gb209, 5, none⟩ = some (.slice A1_5 l1_5.length c1_5) := (blk_cell BK209.out 5).trans rfl
        have hfz13_0 := blk_frozen BK209.out 0
        have hfz13_1 := blk_frozen BK209.out 1
        have hfz13_2 := blk_frozen BK209.out 2
        have hfz13_3 := blk_frozen BK209.out 3
        have hfz13_4 := blk_frozen BK209.out 4
        have hfz13_5 := blk_frozen BK209.out 5
        go_wp2
        repeat (go_quiet (fail); try go_wp2)
        go_meet
        case rel => exact ⟨_, (true), (by first | rfl | (simp; done) | (simp [*]; done)), H', ⟨by first | omega | exact Nat.le_refl _⟩, ⟨by (with_reducible repeat (first | refine blk_drewN ?_ _ | refine blk_drew ?_ | refine blk_alloc ?_ _)); exact BK208.out⟩, ⟨by (with_reducible repeat (first | refine blk_drewN ?_ _ | refine blk_drew ?_ | refine blk_alloc ?_ _)); exact BK209.out⟩, ⟨by repeat (first | (with_reducible first | exact HB.out | apply below_alloc | apply pw_below_drewN | apply below_drew1 | refine below_set ?_ GE208.out | refine below_set ?_ GE209.out) | exact HB.out)⟩⟩
      · rw [if_neg c10] at H
        have c10b0 : (a0_1 != a1_1) = false := by simpa using c10
        (try (have c10b1 : decide (a0_1 = a1_1) = true := by simpa using c10))
        (try (have c10b2 : (a0_1 == a1_1) = true := by simpa using c10))
        clear c10
        by_cases c14 : (a0_2 != a1_2) = true
        · rw [if_pos c14] at H
          have c14b0 : (a0_2 != a1_2) = true := c14
          (try (have c14b1 : decide (a0_2 = a1_2) = false := by simpa using c14))
          (try (have c14b2 : (a0_2 == a1_2) = false := by simpa using c14))
          (try (have c14b3 : ¬ (a0_2 = a1_2) := by simpa using c14))
          clear c14
          have H' := Aside0.mk H
          clear H
          have hnb15 := NB208_209.out
          have hnc15 := NB209_208.out
          have hcz16_0 : w5.cell? ⟨gb208, 0, none⟩ = some (.bool a0_0) := (blk_cell BK208.out 0).trans rfl
          have hcz16_1 : w5.cell? ⟨gb208, 1, none⟩ = some (.bool a0_1) := (blk_cell BK208.out 1).trans rfl
          have hcz16_2 : w5.cell? ⟨gb208, 2, none⟩ = some (.bool a0_2) := (blk_cell BK208.out 2).trans rfl
          have hcz16_3 : w5.cell? ⟨gb208, 3, none⟩ = some (.string a0_3) := (blk_cell BK208.out 3).trans rfl
          have hcz16_4 : w5.cell? ⟨gb208, 4, none⟩ = some (.slice A0_4 l0_4.length c0_4) := (blk_cell BK208.out 4).trans rfl
          have hcz16_5 : w5.cell? ⟨gb208, 5, none⟩ = some (.slice A0_5 l0_5.length c0_5) := (blk_cell BK208.out 5).trans rfl
          have hfz16_0 := blk_frozen BK208.out 0
          have hfz16_1 := blk_frozen BK208.out 1
          have hfz16_2 := blk_frozen BK208.out 2
          have hfz16_3 := blk_frozen BK208.out 3
          have hfz16_4 := blk_frozen BK208.out 4
          have hfz16_5 := blk_frozen BK208.out 5
          have hcz17_0 : w5.cell? ⟨gb209, 0, none⟩ = some (.bool a1_0) := (blk_cell BK209.out 0).trans rfl
          have hcz17_1 : w5.cell? ⟨gb209, 1, none⟩ = some (.bool a1_1) := (blk_cell BK209.out 1).trans rfl
          have hcz17_2 : w5.cell? ⟨gb209, 2, none⟩ = some (.bool a1_2) := (blk_cell BK209.out 2).trans rfl
          have hcz17_3 : w5.cell? ⟨gb209, 3, none⟩ = some (.string a1_3) := (blk_cell BK209.out 3).trans rfl
          have hcz17_4 : w5.cell? ⟨gb209, 4, none⟩ = some (.slice A1_4 l1_4.length c1_4) := (blk_cell BK209.out 4).trans rfl
          have hcz17_5 : w5.cell? ⟨gb209, 5, none⟩ = some (.slice A1_5 l1_5.length c1_5) := (blk_cell BK209.out 5).trans rfl
          have hfz17_0 := blk_frozen BK209.out 0
          have hfz17_1 := blk_frozen BK209.out 1
          have hfz17_2 := blk_frozen BK209.out 2
          have hfz17_3 := blk_frozen BK209.out 3
          have hfz17_4 := blk_frozen BK209.out 4
          have hfz17_5 := blk_frozen BK209.out 5
          go_wp2
          repeat (go_quiet (fail); try go_wp2)
          go_meet
          case rel => exact ⟨_, (true), (by first | rfl | (simp; done) | (simp [*]; done)), H', ⟨by first | omega | exact Nat.le_refl _⟩, ⟨by (with_reducible repeat (first | refine blk_drewN ?_ _ | refine blk_drew ?_ | refine blk_alloc ?_ _)); exact BK208.out⟩, ⟨by (with_reducible repeat (first | refine blk_drewN ?_ _ | refine blk_drew ?_ | refine blk_alloc ?_ _)); exact BK209.out⟩, ⟨by repeat (first | (with_reducible first | exact HB.out | apply below_alloc | apply pw_below_drewN | apply below_drew1 | refine below_set ?_ GE208.out | refine below_set ?_ GE209.out) | exact HB.out)⟩⟩
        · rw [if_neg c14] at H
          have c14b0 : (a0_2 != a1_2) = false := by simpa using c14
          (try (have c14b1 : decide (a0_2 = a1_2) = true := by simpa using c14))
          (try (have c14b2 : (a0_2 == a1_2) = true := by simpa using c14))
          clear c14
          by_cases c18 : a0_3.toList = a1_3.toList
          · rw [if_pos c18] at H
            have c18b0 : (a0_3.toList == a1_3.toList) = true := beq_iff_eq.mpr c18
            have c18b1 : (a0_3.toList != a1_3.toList) = false := bne_eq_false_iff_eq.mpr c18
            clear c18
            replace H := Option.bind_eq_some_iff.mp H
            obtain ⟨t210, A190, H⟩ := H
            replace H : (if t210 = true then (dobbyref14_Same.j0 k ((l0_5.length : Int) != (l1_5.length : Int)) a0_0 a0_1 a0_2 a0_3 l0_4 l0_5 a1_0 a1_1 a1_2 a1_3 l1_4 l1_5) else (dobbyref14_Same.j0 k true a0_0 a0_1 a0_2 a0_3 l0_4 l0_5 a1_0 a1_1 a1_2 a1_3 l1_4 l1_5)) = some r := H
            have A19 := Aside0.mk A190
            clear A190
            by_cases c20 : t210 = true
            · subst c20
              have H1 : (dobbyref14_Same.j0 k ((l0_5.length : Int) != (l1_5.length : Int)) a0_0 a0_1 a0_2 a0_3 l0_4 l0_5 a1_0 a1_1 a1_2 a1_3 l1_4 l1_5) = some r := by rw [if_pos rfl] at H; exact H
              clear H
              have H := H1
              clear H1
              have H' := Aside0.mk H
              clear H
              have hnb21 := NB208_209.out
              have hnc21 := NB209_208.out
              have hcz22_0 : w5.cell? ⟨gb208, 0, none⟩ = some (.bool a0_0) := (blk_cell BK208.out 0).trans rfl
              have hcz22_1 : w5.cell? ⟨gb208, 1, none⟩ = some (.bool a0_1) := (blk_cell BK208.out 1).trans rfl
              have hcz22_2 : w5.cell? ⟨gb208, 2, none⟩ = some (.bool a0_2) := (blk_cell BK208.out 2).trans rfl
              have hcz22_3 : w5.cell? ⟨gb208, 3, none⟩ = some (.string a0_3) := (blk_cell BK208.out 3).trans rfl
              have hcz22_4 : w5.cell? ⟨gb208, 4, none⟩ = some (.slice A0_4 l0_4.length c0_4) := (blk_cell BK208.out 4).trans rfl
              have hcz22_5 : w5.cell? ⟨gb208, 5, none⟩ = some (.slice A0_5 l0_5.length c0_5) := (blk_cell BK208.out 5).trans rfl
              have hfz22_0 := blk_frozen BK208.out 0
              have hfz22_1 := blk_frozen BK208.out 1
              have hfz22_2 := blk_frozen BK208.out 2
              have hfz22_3 := blk_frozen BK208.out 3
              have hfz22_4 := blk_frozen BK208.out 4
              have hfz22_5 := blk_frozen BK208.out 5
              have hcz23_0 : w5.cell? ⟨gb209, 0, none⟩ = some (.bool a1_0) := (blk_cell BK209.out 0).trans rfl
              have hcz23_1 : w5.cell? ⟨gb209, 1, none⟩ = some (.bool a1_1) := (blk_cell BK209.out 1).trans rfl
              have hcz23_2 : w5.cell? ⟨gb209, 2, none⟩ = some (.bool a1_2) := (blk_cell BK209.out 2).trans rfl
              have hcz23_3 : w5.cell? ⟨gb209, 3, none⟩ = some (.string a1_3) := (blk_cell BK209.out 3).trans rfl
              have hcz23_4 : w5.cell? ⟨gb209, 4, none⟩ = some (.slice A1_4 l1_4.length c1_4) := (blk_cell BK209.out 4).trans rfl
              have hcz23_5 : w5.cell? ⟨gb209, 5, none⟩ = some (.slice A1_5 l1_5.length c1_5) := (blk_cell BK209.out 5).trans rfl
              have hfz23_0 := blk_frozen BK209.out 0
              have hfz23_1 := blk_frozen BK209.out 1
              have hfz23_2 := blk_frozen BK209.out 2
              have hfz23_3 := blk_frozen BK209.out 3
              have hfz23_4 := blk_frozen BK209.out 4
              have hfz23_5 := blk_frozen BK209.out 5
              go_wp2_with (first | (go_at_call 28; (with_reducible refine (dobbyref14_alike.calls k _ _ l0_4 _ _ l1_4 true _ ?side1 ?side2 ?side3 ?side4 A19.out).mono ?_); (case side1 => repeat (first | exact (Kd.C_below HR0_4.out HB.out) | (with_reducible refine Kd.C_alloc ?_ _) | (with_reducible refine Kd.C_drewN ?_ _) | (with_reducible refine Kd.C_drew ?_))); (case side2 => exact HC0_4.out); (case side3 => repeat (first | exact (Kd.C_below HR1_4.out HB.out) | (with_reducible refine Kd.C_alloc ?_ _) | (with_reducible refine Kd.C_drewN ?_ _) | (with_reducible refine Kd.C_drew ?_))); (case side4 => exact HC1_4.out); rintro e w' ⟨rfl, ⟨nd, rfl⟩⟩; (try first | exact ⟨rfl, _, World.drewN_drewN _ _ _⟩ | exact ⟨rfl, _, Eq.trans (World.drewN_drewN _ _ _) (congrArg (World.drewN _) (Nat.add_assoc _ _ _))⟩)))
              repeat (go_quiet (first | (go_at_call 28; (with_reducible refine (dobbyref14_alike.calls k _ _ l0_4 _ _ l1_4 true _ ?side1 ?side2 ?side3 ?side4 A19.out).mono ?_); (case side1 => repeat (first | exact (Kd.C_below HR0_4.out HB.out) | (with_reducible refine Kd.C_alloc ?_ _) | (with_reducible refine Kd.C_drewN ?_ _) | (with_reducible refine Kd.C_drew ?_))); (case side2 => exact HC0_4.out); (case side3 => repeat (first | exact (Kd.C_below HR1_4.out HB.out) | (with_reducible refine Kd.C_alloc ?_ _) | (with_reducible refine Kd.C_drewN ?_ _) | (with_reducible refine Kd.C_drew ?_))); (case side4 => exact HC1_4.out); rintro e w' ⟨rfl, ⟨nd, rfl⟩⟩; (try first | exact ⟨rfl, _, World.drewN_drewN _ _ _⟩ | exact ⟨rfl, _, Eq.trans (World.drewN_drewN _ _ _) (congrArg (World.drewN _) (Nat.add_assoc _ _ _))⟩))); try go_wp2_with (first | (go_at_call 28; (with_reducible refine (dobbyref14_alike.calls k _ _ l0_4 _ _ l1_4 true _ ?side1 ?side2 ?side3 ?side4 A19.out).mono ?_); (case side1 => repeat (first | exact (Kd.C_below HR0_4.out HB.out) | (with_reducible refine Kd.C_alloc ?_ _) | (with_reducible refine Kd.C_drewN ?_ _) | (with_reducible refine Kd.C_drew ?_))); (case side2 => exact HC0_4.out); (case side3 => repeat (first | exact (Kd.C_below HR1_4.out HB.out) | (with_reducible refine Kd.C_alloc ?_ _) | (with_reducible refine Kd.C_drewN ?_ _) | (with_reducible refine Kd.C_drew ?_))); (case side4 => exact HC1_4.out); rintro e w' ⟨rfl, ⟨nd, rfl⟩⟩; (try first | exact ⟨rfl, _, World.drewN_drewN _ _ _⟩ | exact ⟨rfl, _, Eq.trans (World.drewN_drewN _ _ _) (congrArg (World.drewN _) (Nat.add_assoc _ _ _))⟩))))
              go_meet
              case rel => exact ⟨_, (((l0_5.length : Int) != (l1_5.length : Int))), (by first | rfl | (simp; done) | (simp [*]; done)), H', ⟨by first | omega | exact Nat.le_refl _⟩, ⟨by (with_reducible repeat (first | refine blk_drewN ?_ _ | refine blk_drew ?_ | refine blk_alloc ?_ _)); exact BK208.out⟩, ⟨by (with_reducible repeat (first | refine blk_drewN ?_ _ | refine blk_drew ?_ | refine blk_alloc ?_ _)); exact BK209.out⟩, ⟨by repeat (first | (with_reducible first | exact HB.out | apply below_alloc | apply pw_below_drewN | apply below_drew1 | refine below_set ?_ GE208.out | refine below_set ?_ GE209.out) | exact HB.out)⟩⟩
            · replace c20 := Bool.eq_false_iff.mpr c20
              subst c20
              have H1 : (dobbyref14_Same.j0 k true a0_0 a0_1 a0_2 a0_3 l0_4 l0_5 a1_0 a1_1 a1_2 a1_3 l1_4 l1_5) = some r := by rw [if_neg (show ¬ (false = true) by decide)] at H; exact H
              clear H
              have H := H1
              clear H1
              have H' := Aside0.mk H
              clear H
              have hnb24 := NB208_209.out
              have hnc24 := NB209_208.out
              have hcz25_0 : w5.cell? ⟨gb208, 0, none⟩ = some (.bool a0_0) := (blk_cell BK208.out 0).trans rfl
              have hcz25_1 : w5.cell? ⟨gb208, 1, none⟩ = some (.bool a0_1) := (blk_cell BK208.out 1).trans rfl
              have hcz25_2 : w5.cell? ⟨gb208, 2, none⟩ = some (.bool a0_2) := (blk_cell BK208.out 2).trans rfl
              have hcz25_3 : w5.cell? ⟨gb208, 3, none⟩ = some (.string a0_3) := (blk_cell BK208.out 3).trans rfl
              have hcz25_4 : w5.cell? ⟨gb208, 4, none⟩ = some (.slice A0_4 l0_4.length c0_4) := (blk_cell BK208.out 4).trans rfl
              have hcz25_5 : w5.cell? ⟨gb208, 5, none⟩ = some (.slice A0_5 l0_5.length c0_5) := (blk_cell BK208.out 5).trans rfl
              have hfz25_0 := blk_frozen BK208.out 0
              have hfz25_1 := blk_frozen BK208.out 1
              have hfz25_2 := blk_frozen BK208.out 2
              have hfz25_3 := blk_frozen BK208.out 3
              have hfz25_4 := blk_frozen BK208.out 4
              have hfz25_5 := blk_frozen BK208.out 5
              have hcz26_0 : w5.cell? ⟨gb209, 0, none⟩ = some (.bool a1_0) := (blk_cell BK209.out 0).trans rfl
              have hcz26_1 : w5.cell? ⟨gb209, 1, none⟩ = some (.bool a1_1) := (blk_cell BK209.out 1).trans rfl
              have hcz26_2 : w5.cell? ⟨gb209, 2, none⟩ = some (.bool a1_2) := (blk_cell BK209.out 2).trans rfl
              have hcz26_3 : w5.cell? ⟨gb209, 3, none⟩ = some (.string a1_3) := (blk_cell BK209.out 3).trans rfl
              have hcz26_4 : w5.cell? ⟨gb209, 4, none⟩ = some (.slice A1_4 l1_4.length c1_4) := (blk_cell BK209.out 4).trans rfl
              have hcz26_5 : w5.cell? ⟨gb209, 5, none⟩ = some (.slice A1_5 l1_5.length c1_5) := (blk_cell BK209.out 5).trans rfl
              have hfz26_0 := blk_frozen BK209.out 0
              have hfz26_1 := blk_frozen BK209.out 1
              have hfz26_2 := blk_frozen BK209.out 2
              have hfz26_3 := blk_frozen BK209.out 3
              have hfz26_4 := blk_frozen BK209.out 4
              have hfz26_5 := blk_frozen BK209.out 5
              go_wp2_with (first | (go_at_call 28; (with_reducible refine (dobbyref14_alike.calls k _ _ l0_4 _ _ l1_4 false _ ?side1 ?side2 ?side3 ?side4 A19.out).mono ?_); (case side1 => repeat (first | exact (Kd.C_below HR0_4.out HB.out) | (with_reducible refine Kd.C_alloc ?_ _) | (with_reducible refine Kd.C_drewN ?_ _) | (with_reducible refine Kd.C_drew ?_))); (case side2 => exact HC0_4.out); (case side3 => repeat (first | exact (Kd.C_below HR1_4.out HB.out) | (with_reducible refine Kd.C_alloc ?_ _) | (with_reducible refine Kd.C_drewN ?_ _) | (with_reducible refine Kd.C_drew ?_))); (case side4 => exact HC1_4.out); rintro e w' ⟨rfl, ⟨nd, rfl⟩⟩; (try first | exact ⟨rfl, _, World.drewN_drewN _ _ _⟩ | exact ⟨rfl, _, Eq.trans (World.drewN_drewN _ _ _) (congrArg (World.drewN _) (Nat.add_assoc _ _ _))⟩)))
              repeat (go_quiet (first | (go_at_call 28; (with_reducible refine (dobbyref14_alike.calls k _ _ l0_4 _ _ l1_4 false _ ?side1 ?side2 ?side3 ?side4 A19.out).mono ?_); (case side1 => repeat (first | exact (Kd.C_below HR0_4.out HB.out) | (with_reducible refine Kd.C_alloc ?_ _) | (with_reducible refine Kd.C_drewN ?_ _) | (with_reducible refine Kd.C_drew ?_))); (case side2 => exact HC0_4.out); (case side3 => repeat (first | exact (Kd.C_below HR1_4.out HB.out) | (with_reducible refine Kd.C_alloc ?_ _) | (with_reducible refine Kd.C_drewN ?_ _) | (with_reducible refine Kd.C_drew ?_))); (case side4 => exact HC1_4.out); rintro e w' ⟨rfl, ⟨nd, rfl⟩⟩; (try first | exact ⟨rfl, _, World.drewN_drewN _ _ _⟩ | exact ⟨rfl, _, Eq.trans (World.drewN_drewN _ _ _) (congrArg (World.drewN _) (Nat.add_assoc _ _ _))⟩))); try go_wp2_with (first | (go_at_call 28; (with_reducible refine (dobbyref14_alike.calls k _ _ l0_4 _ _ l1_4 false _ ?side1 ?side2 ?side3 ?side4 A19.out).mono ?_); (case side1 => repeat (first | exact (Kd.C_below HR0_4.out HB.out) | (with_reducible refine Kd.C_alloc ?_ _) | (with_reducible refine Kd.C_drewN ?_ _) | (with_reducible refine Kd.C_drew ?_))); (case side2 => exact HC0_4.out); (case side3 => repeat (first | exact (Kd.C_below HR1_4.out HB.out) | (with_reducible refine Kd.C_alloc ?_ _) | (with_reducible refine Kd.C_drewN ?_ _) | (with_reducible refine Kd.C_drew ?_))); (case side4 => exact HC1_4.out); rintro e w' ⟨rfl, ⟨nd, rfl⟩⟩; (try first | exact ⟨rfl, _, World.drewN_drewN _ _ _⟩ | exact ⟨rfl, _, Eq.trans (World.drewN_drewN _ _ _) (congrArg (World.drewN _) (Nat.add_assoc _ _ _))⟩))))
              go_meet
              case rel => exact ⟨_, (true), (by first | rfl | (simp; done) | (simp [*]; done)), H', ⟨by first | omega | exact Nat.le_refl _⟩, ⟨by (with_reducible repeat (first | refine blk_drewN ?_ _ | refine blk_drew ?_ | refine blk_alloc ?_ _)); exact BK208.out⟩, ⟨by (with_reducible repeat (first | refine blk_drewN ?_ _ | refine blk_drew ?_ | refine blk_alloc ?_ _)); exact BK209.out⟩, ⟨by repeat (first | (with_reducible first | exact HB.out | apply below_alloc | apply pw_below_drewN | apply below_drew1 | refine below_set ?_ GE208.out | refine below_set ?_ GE209.out) | exact HB.out)⟩⟩
          · rw [if_neg c18] at H
            have c18b0 : (a0_3.toList == a1_3.toList) = false := beq_eq_false_iff_ne.mpr c18
            have c18b1 : (a0_3.toList != a1_3.toList) = true := bne_iff_ne.mpr c18
            have H' := Aside0.mk H
            clear H
            have hnb27 := NB208_209.out
            have hnc27 := NB209_208.out
            have hcz28_0 : w5.cell? ⟨gb208, 0, none⟩ = some (.bool a0_0) := (blk_cell BK208.out 0).trans rfl
            have hcz28_1 : w5.cell? ⟨gb208, 1, none⟩ = some (.bool a0_1) := (blk_cell BK208.out 1).trans rfl
            have hcz28_2 : w5.cell? ⟨gb208, 2, none⟩ = some (.bool a0_2) := (blk_cell BK208.out 2).trans rfl
            have hcz28_3 : w5.cell? ⟨gb208, 3, none⟩ = some (.string a0_3) := (blk_cell BK208.out 3).trans rfl
            have hcz28_4 : w5.cell? ⟨gb208, 4, none⟩ = some (.slice A0_4 l0_4.length c0_4) := (blk_cell BK208.out 4).trans rfl
            have hcz28_5 : w5.cell? ⟨gb208, 5, none⟩ = some (.slice A0_5 l0_5.length c0_5) := (blk_cell BK208.out 5).trans rfl
            have hfz28_0 := blk_frozen BK208.out 0
            have hfz28_1 := blk_frozen BK208.out 1
            have hfz28_2 := blk_frozen BK208.out 2
            have hfz28_3 := blk_frozen BK208.out 3
            have hfz28_4 := blk_frozen BK208.out 4
            have hfz28_5 := blk_frozen BK208.out 5
            have hcz29_0 : w5.cell? ⟨gb209, 0, none⟩ = some (.bool a1_0) := (blk_cell BK209.out 0).trans rfl
            have hcz29_1 : w5.cell? ⟨gb209, 1, none⟩ = some (.bool a1_1) := (blk_cell BK209.out 1).trans rfl
            have hcz29_2 : w5.cell? ⟨gb209, 2, none⟩ = some (.bool a1_2) := (blk_cell BK209.out 2).trans rfl
            have hcz29_3 : w5.cell? ⟨gb209, 3, none⟩ = some (.string a1_3) := (blk_cell BK209.out 3).trans rfl
            have hcz29_4 : w5.cell? ⟨gb209, 4, none⟩ = some (.slice A1_4 l1_4.length c1_4) := (blk_cell BK209.out 4).trans rfl
            have hcz29_5 : w5.cell? ⟨gb209, 5, none⟩ = some (.slice A1_5 l1_5.length c1_5) := (blk_cell BK209.out 5).trans rfl
            have hfz29_0 := blk_frozen BK209.out 0
            have hfz29_1 := blk_frozen BK209.out 1
            have hfz29_2 := blk_frozen BK209.out 2
            have hfz29_3 := blk_frozen BK209.out 3
            have hfz29_4 := blk_frozen BK209.out 4
            have hfz29_5 := blk_frozen BK209.out 5
            go_wp2
            repeat (go_quiet (fail); try go_wp2)
            go_meet
            case rel => exact ⟨_, (true), (by first | rfl | (simp; done) | (simp [*]; done)), H', ⟨by first | omega | exact Nat.le_refl _⟩, ⟨by (with_reducible repeat (first | refine blk_drewN ?_ _ | refine blk_drew ?_ | refine blk_alloc ?_ _)); exact BK208.out⟩, ⟨by (with_reducible repeat (first | refine blk_drewN ?_ _ | refine blk_drew ?_ | refine blk_alloc ?_ _)); exact BK209.out⟩, ⟨by repeat (first | (with_reducible first | exact HB.out | apply below_alloc | apply pw_below_drewN | apply below_drew1 | refine below_set ?_ GE208.out | refine below_set ?_ GE209.out) | exact HB.out)⟩⟩
  case rest =>
    clear HC3
    try clear c1
    try clear c2
    try clear p2
    try clear c6
    try clear c6b0
    try clear c6b1
    try clear c6b2
    try clear c7
    try clear c10
    try clear c10b0
    try clear c10b1
    try clear c10b2
    try clear c11
    try clear c14
    try clear c14b0
    try clear c14b1
    try clear c14b2
    try clear c15
    try clear c18
    try clear c18b0
    try clear c18b1
    try clear c20
    try clear c21
    try clear c24
    try clear c27
    try clear hcz12_0
    try clear hcz12_1
    try clear hcz12_2
    try clear hcz12_3
    try clear hcz12_4
    try clear hcz12_5
    try clear hcz13_0
    try clear hcz13_1
    try clear hcz13_2
    try clear hcz13_3
    try clear hcz13_4
    try clear hcz13_5
    try clear hcz16_0
    try clear hcz16_1
    try clear hcz16_2
    try clear hcz16_3
    try clear hcz16_4
    try clear hcz16_5
    try clear hcz17_0
    try clear hcz17_1
    try clear hcz17_2
    try clear hcz17_3
    try clear hcz17_4
    try clear hcz17_5
    try clear hcz22_0
    try clear hcz22_1
    try clear hcz22_2
    try clear hcz22_3
    try clear hcz22_4
    try clear hcz22_5
    try clear hcz23_0
    try clear hcz23_1
    try clear hcz23_2
    try clear hcz23_3
    try clear hcz23_4
    try clear hcz23_5
    try clear hcz25_0
    try clear hcz25_1
    try clear hcz25_2
    try clear hcz25_3
    try clear hcz25_4
    try clear hcz25_5
    try clear hcz26_0
    try clear hcz26_1
    try clear hcz26_2
    try clear hcz26_3
    try clear hcz26_4
    try clear hcz26_5
    try clear hcz28_0
    try clear hcz28_1
    try clear hcz28_2
    try clear hcz28_3
    try clear hcz28_4
    try clear hcz28_5
    try clear hcz29_0
    try clear hcz29_1
    try clear hcz29_2
    try clear hcz29_3
    try clear hcz29_4
    try clear hcz29_5
    try clear hcz8_0
    try clear hcz8_1
    try clear hcz8_2
    try clear hcz8_3
    try clear hcz8_4
    try clear hcz8_5
    try clear hcz9_0
    try clear hcz9_1
    try clear hcz9_2
    try clear hcz9_3
    try clear hcz9_4
    try clear hcz9_5
    try clear hfz12_0
    try clear hfz12_1
    try clear hfz12_2
    try clear hfz12_3
    try clear hfz12_4
    try clear hfz12_5
    try clear hfz13_0
    try clear hfz13_1
    try clear hfz13_2
    try clear hfz13_3
    try clear hfz13_4
    try clear hfz13_5
    try clear hfz16_0
    try clear hfz16_1
    try clear hfz16_2
    try clear hfz16_3
    try clear hfz16_4
    try clear hfz16_5
    try clear hfz17_0
    try clear hfz17_1
    try clear hfz17_2
    try clear hfz17_3
    try clear hfz17_4
    try clear hfz17_5
    try clear hfz22_0
    try clear hfz22_1
    try clear hfz22_2
    try clear hfz22_3
    try clear hfz22_4
    try clear hfz22_5
    try clear hfz23_0
    try clear hfz23_1
    try clear hfz23_2
    try clear hfz23_3
    try clear hfz23_4
    try clear hfz23_5
    try clear hfz25_0
    try clear hfz25_1
    try clear hfz25_2
    try clear hfz25_3
    try clear hfz25_4
    try clear hfz25_5
    try clear hfz26_0
    try clear hfz26_1
    try clear hfz26_2
    try clear hfz26_3
    try clear hfz26_4
    try clear hfz26_5
    try clear hfz28_0
    try clear hfz28_1
    try clear hfz28_2
    try clear hfz28_3
    try clear hfz28_4
    try clear hfz28_5
    try clear hfz29_0
    try clear hfz29_1
    try clear hfz29_2
    try clear hfz29_3
    try clear hfz29_4
    try clear hfz29_5
    try clear hfz8_0
    try clear hfz8_1
    try clear hfz8_2
    try clear hfz8_3
    try clear hfz8_4
    try clear hfz8_5
    try clear hfz9_0
    try clear hfz9_1
    try clear hfz9_2
    try clear hfz9_3
    try clear hfz9_4
    try clear hfz9_5
    obtain ⟨kq, x48_2, rfl, HA, HJ2, BK208, BK209, HB⟩ := hcut
    cases kq with
    | zero => exact absurd HA.out (by simp [dobbyref14_Same.j0])
    | succ kj2 =>
      have H := HA.out
      clear HA
      simp only [dobbyref14_Same.j0] at H
      by_cases c30 : x48_2 = true
      · subst c30
        have H1 : (some false) = some r := by rw [if_pos rfl] at H; exact H
        clear H
        have H := H1
        clear H1
        obtain rfl := Option.some.inj H
        go_wp2
        repeat (go_quiet (fail); try go_wp2)
        go_ret
        exact ⟨by first | rfl | (simp [errW_none, errW_some] <;> rfl) | (simp [*, errW_none, errW_some] <;> rfl), by repeat (first | (with_reducible first | exact HB.out | apply below_alloc | apply pw_below_drewN | apply below_drew1 | refine below_set ?_ GE208.out | refine below_set ?_ GE209.out) | exact HB.out)⟩
      · replace c30 := Bool.eq_false_iff.mpr c30
        subst c30
        have H1 : (dobbyref14_Same.l0 kj2 0 a0_0 a0_1 a0_2 a0_3 l0_4 l0_5 a1_0 a1_1 a1_2 a1_3 l1_4 l1_5) = some r := by rw [if_neg (show ¬ (false = true) by decide)] at H; exact H
        clear H
        have H := H1
        clear H1
        have H' := Aside0.mk H
        clear H
        go_wp2
        repeat (go_quiet (fail); try go_wp2)
        go_loopg [5] kj2 (fun kq v5 w' => ∃ (x5_2 : Int), v5 = .int .i64 x5_2 ∧ Aside0 (dobbyref14_Same.l0 kq x5_2 a0_0 a0_1 a0_2 a0_3 l0_4 l0_5 a1_0 a1_1 a1_2 a1_3 l1_4 l1_5 = some r) ∧ Aside0 (kq ≤ kj2) ∧ Aside0 (w'.heap[gb208]? = some (.cells #[.bool a0_0, .bool a0_1, .bool a0_2, .string a0_3, (.slice A0_4 l0_4.length c0_4), (.slice A0_5 l0_5.length c0_5)] 25 (0, 0))) ∧ Aside0 (w'.heap[gb209]? = some (.cells #[.bool a1_0, .bool a1_1, .bool a1_2, .string a1_3, (.slice A1_4 l1_4.length c1_4), (.slice A1_5 l1_5.length c1_5)] 25 (0, 0))) ∧ Aside0 (Below w.heap.size w w'))
        case atStart => exact ⟨(0), (by first | rfl | (simp; done) | (simp [*]; done)), H', ⟨Nat.le_refl _⟩, ⟨by (with_reducible repeat (first | refine blk_drewN ?_ _ | refine blk_drew ?_ | refine blk_alloc ?_ _)); exact BK208.out⟩, ⟨by (with_reducible repeat (first | refine blk_drewN ?_ _ | refine blk_drew ?_ | refine blk_alloc ?_ _)); exact BK209.out⟩, ⟨by repeat (first | (with_reducible first | exact HB.out | apply below_alloc | apply pw_below_drewN | apply below_drew1 | refine below_set ?_ GE208.out | refine below_set ?_ GE209.out) | exact HB.out)⟩⟩
        case round =>
          clear H'
          try clear c1
          try clear c2
          try clear p2
          try clear c3
          try clear c6
          try clear c6b0
          try clear c6b1
          try clear c6b2
          try clear c7
          try clear c10
          try clear c10b0
          try clear c10b1
          try clear c10b2
          try clear c11
          try clear c14
          try clear c14b0
          try clear c14b1
          try clear c14b2
          try clear c15
          try clear c18
          try clear c18b0
          try clear c18b1
          try clear c20
          try clear c21
          try clear c24
          try clear c27
          try clear c30
          try clear hcz12_0
          try clear hcz12_1
          try clear hcz12_2
          try clear hcz12_3
          try clear hcz12_4
          try clear hcz12_5
          try clear hcz13_0
          try clear hcz13_1
          try clear hcz13_2
          try clear hcz13_3
          try clear hcz13_4
          try clear hcz13_5
          try clear hcz16_0
          try clear hcz16_1
          try clear hcz16_2
          try clear hcz16_3
          try clear hcz16_4
          try clear hcz16_5
          try clear hcz17_0
          try clear hcz17_1
          try clear hcz17_2
          try clear hcz17_3
          try clear hcz17_4
          try clear hcz17_5
          try clear hcz22_0
          try clear hcz22_1
          try clear hcz22_2
          try clear hcz22_3
          try clear hcz22_4
          try clear hcz22_5
          try clear hcz23_0
          try clear hcz23_1
          try clear hcz23_2
          try clear hcz23_3
          try clear hcz23_4
          try clear hcz23_5
          try clear hcz25_0
          try clear hcz25_1
          try clear hcz25_2
          try clear hcz25_3
          try clear hcz25_4
          try clear hcz25_5
          try clear hcz26_0
          try clear hcz26_1
          try clear hcz26_2
          try clear hcz26_3
          try clear hcz26_4
          try clear hcz26_5
          try clear hcz28_0
          try clear hcz28_1
          try clear hcz28_2
          try clear hcz28_3
          try clear hcz28_4
          try clear hcz28_5
          try clear hcz29_0
          try clear hcz29_1
          try clear hcz29_2
          try clear hcz29_3
          try clear hcz29_4
          try clear hcz29_5
          try clear hcz8_0
          try clear hcz8_1
          try clear hcz8_2
          try clear hcz8_3
          try clear hcz8_4
          try clear hcz8_5
          try clear hcz9_0
          try clear hcz9_1
          try clear hcz9_2
          try clear hcz9_3
          try clear hcz9_4
          try clear hcz9_5
          try clear hfz12_0
          try clear hfz12_1
          try clear hfz12_2
          try clear hfz12_3
          try clear hfz12_4
          try clear hfz12_5
          try clear hfz13_0
          try clear hfz13_1
          try clear hfz13_2
          try clear hfz13_3
          try clear hfz13_4
          try clear hfz13_5
          try clear hfz16_0
          try clear hfz16_1
          try clear hfz16_2
          try clear hfz16_3
          try clear hfz16_4
          try clear hfz16_5
          try clear hfz17_0
          try clear hfz17_1
          try clear hfz17_2
          try clear hfz17_3
          try clear hfz17_4
          try clear hfz17_5
          try clear hfz22_0
          try clear hfz22_1
          try clear hfz22_2
          try clear hfz22_3
          try clear hfz22_4
          try clear hfz22_5
          try clear hfz23_0
          try clear hfz23_1
          try clear hfz23_2
          try clear hfz23_3
          try clear hfz23_4
          try clear hfz23_5
          try clear hfz25_0
          try clear hfz25_1
          try clear hfz25_2
          try clear hfz25_3
          try clear hfz25_4
          try clear hfz25_5
          try clear hfz26_0
          try clear hfz26_1
          try clear hfz26_2
          try clear hfz26_3
          try clear hfz26_4
          try clear hfz26_5
          try clear hfz28_0
          try clear hfz28_1
          try clear hfz28_2
          try clear hfz28_3
          try clear hfz28_4
          try clear hfz28_5
          try clear hfz29_0
          try clear hfz29_1
          try clear hfz29_2
          try clear hfz29_3
          try clear hfz29_4
          try clear hfz29_5
          try clear hfz8_0
          try clear hfz8_1
          try clear hfz8_2
          try clear hfz8_3
          try clear hfz8_4
          try clear hfz8_5
          try clear hfz9_0
          try clear hfz9_1
          try clear hfz9_2
          try clear hfz9_3
          try clear hfz9_4
          try clear hfz9_5
          try clear p2
          obtain ⟨x5_2, rfl, HA, HK2, BK208, BK209, HB⟩ := hrel
          cases gk with
          | zero => exact absurd HA.out (by simp [dobbyref14_Same.l0])
          | succ k2 =>
            have H := HA.out
            clear HA
            simp only [dobbyref14_Same.l0] at H
            by_cases c31 : x5_2 < (l0_5.length : Int)
            · rw [if_pos c31] at H
              have c31b0 : decide (x5_2 < (l0_5.length : Int)) = true := decide_eq_true c31
              clear c31
              by_cases c32 : 0 ≤ x5_2
              · rw [if_pos c32] at H
                have c32b0 : decide (0 ≤ x5_2) = true := decide_eq_true c32
                clear c32
                by_cases c33 : x5_2 < (l1_5.length : Int)
                · rw [if_pos c33] at H
                  have c33b0 : decide (x5_2 < (l1_5.length : Int)) = true := decide_eq_true c33
                  clear c33
                  by_cases c34 : ((rd_T43 l0_5 x5_2).f0) = ((rd_T43 l1_5 x5_2).f0)
                  · rw [if_pos c34] at H
                    have c34b0 : (((rd_T43 l0_5 x5_2).f0) == ((rd_T43 l1_5 x5_2).f0)) = true := beq_iff_eq.mpr c34
                    have c34b1 : (((rd_T43 l0_5 x5_2).f0) != ((rd_T43 l1_5 x5_2).f0)) = false := bne_eq_false_iff_eq.mpr c34
                    clear c34
                    replace H := Option.bind_eq_some_iff.mp H
                    obtain ⟨t215, A350, H⟩ := H
                    replace H : (if t215 = true then (dobbyref14_Same.l0 k2 (wrap64 (x5_2 + 1)) a0_0 a0_1 a0_2 a0_3 l0_4 l0_5 a1_0 a1_1 a1_2 a1_3 l1_4 l1_5) else (some false)) = some r := H
                    have A35 := Aside0.mk A350
                    clear A350
                    by_cases c36 : t215 = true
                    · subst c36
                      have H1 : (dobbyref14_Same.l0 k2 (wrap64 (x5_2 + 1)) a0_0 a0_1 a0_2 a0_3 l0_4 l0_5 a1_0 a1_1 a1_2 a1_3 l1_4 l1_5) = some r := by rw [if_pos rfl] at H; exact H
                      clear H
                      have H := H1
                      clear H1
                      have H' := Aside0.mk H
                      clear H
                      have hnb37 := NB208_209.out
                      have hnc37 := NB209_208.out
                      have hcz38_0 : wr.cell? ⟨gb208, 0, none⟩ = some (.bool a0_0) := (blk_cell BK208.out 0).trans rfl
                      have hcz38_1 : wr.cell? ⟨gb208, 1, none⟩ = some (.bool a0_1) := (blk_cell BK208.out 1).trans rfl
                      have hcz38_2 : wr.cell? ⟨gb208, 2, none⟩ = some (.bool a0_2) := (blk_cell BK208.out 2).trans rfl
                      have hcz38_3 : wr.cell? ⟨gb208, 3, none⟩ = some (.string a0_3) := (blk_cell BK208.out 3).trans rfl
                      have hcz38_4 : wr.cell? ⟨gb208, 4, none⟩ = some (.slice A0_4 l0_4.length c0_4) := (blk_cell BK208.out 4).trans rfl
                      have hcz38_5 : wr.cell? ⟨gb208, 5, none⟩ = some (.slice A0_5 l0_5.length c0_5) := (blk_cell BK208.out 5).trans rfl
                      have hfz38_0 := blk_frozen BK208.out 0
                      have hfz38_1 := blk_frozen BK208.out 1
                      have hfz38_2 := blk_frozen BK208.out 2
                      have hfz38_3 := blk_frozen BK208.out 3
                      have hfz38_4 := blk_frozen BK208.out 4
                      have hfz38_5 := blk_frozen BK208.out 5
                      have p211 : 0 ≤ (x5_2 : Int) := of_decide_eq_true (by first | (with_reducible assumption) | assumption)
                      have q211 : x5_2 < (l0_5.length : Int) := of_decide_eq_true (by first | (with_reducible assumption) | assumption)
                      obtain ⟨ad211, A211_1, c211_1, e211, hx211_0, hx211_1, hl211_1, hi211_1⟩ := at_T43 HR0_5.out x5_2 p211 q211
                      cases e211
                      replace hx211_0 := (HB.out.cell (World.block_lt_of_cell? w _ hx211_0)).trans hx211_0
                      replace hx211_1 := (HB.out.cell (World.block_lt_of_cell? w _ hx211_1)).trans hx211_1
                      have HR211_1 := Aside0.mk hi211_1
                      have HC211_1 := Aside0.mk hl211_1
                      clear hi211_1 hl211_1
                      replace p211 := eq_true p211
                      replace q211 := eq_true q211
                      have hcz39_0 : wr.cell? ⟨gb209, 0, none⟩ = some (.bool a1_0) := (blk_cell BK209.out 0).trans rfl
                      have hcz39_1 : wr.cell? ⟨gb209, 1, none⟩ = some (.bool a1_1) := (blk_cell BK209.out 1).trans rfl
                      have hcz39_2 : wr.cell? ⟨gb209, 2, none⟩ = some (.bool a1_2) := (blk_cell BK209.out 2).trans rfl
                      have hcz39_3 : wr.cell? ⟨gb209, 3, none⟩ = some (.string a1_3) := (blk_cell BK209.out 3).trans rfl
                      have hcz39_4 : wr.cell? ⟨gb209, 4, none⟩ = some (.slice A1_4 l1_4.length c1_4) := (blk_cell BK209.out 4).trans rfl
                      have hcz39_5 : wr.cell? ⟨gb209, 5, none⟩ = some (.slice A1_5 l1_5.length c1_5) := (blk_cell BK209.out 5).trans rfl
                      have hfz39_0 := blk_frozen BK209.out 0
                      have hfz39_1 := blk_frozen BK209.out 1
                      have hfz39_2 := blk_frozen BK209.out 2
                      have hfz39_3 := blk_frozen BK209.out 3
                      have hfz39_4 := blk_frozen BK209.out 4
                      have hfz39_5 := blk_frozen BK209.out 5
                      have p212 : 0 ≤ (x5_2 : Int) := of_decide_eq_true (by first | (with_reducible assumption) | assumption)
                      have q212 : x5_2 < (l1_5.length : Int) := of_decide_eq_true (by first | (with_reducible assumption) | assumption)
                      obtain ⟨ad212, A212_1, c212_1, e212, hx212_0, hx212_1, hl212_1, hi212_1⟩ := at_T43 HR1_5.out x5_2 p212 q212
                      cases e212
                      replace hx212_0 := (HB.out.cell (World.block_lt_of_cell? w _ hx212_0)).trans hx212_0
                      replace hx212_1 := (HB.out.cell (World.block_lt_of_cell? w _ hx212_1)).trans hx212_1
                      have HR212_1 := Aside0.mk hi212_1
                      have HC212_1 := Aside0.mk hl212_1
                      clear hi212_1 hl212_1
                      replace p212 := eq_true p212
                      replace q212 := eq_true q212
                      have p213 : 0 ≤ (x5_2 : Int) := of_decide_eq_true (by first | (with_reducible assumption) | assumption)
                      have q213 : x5_2 < (l0_5.length : Int) := of_decide_eq_true (by first | (with_reducible assumption) | assumption)
                      obtain ⟨ad213, A213_1, c213_1, e213, hx213_0, hx213_1, hl213_1, hi213_1⟩ := at_T43 HR0_5.out x5_2 p213 q213
                      obtain rfl : ad211 = ad213 := (by injection e213)
                      replace hx213_0 := (HB.out.cell (World.block_lt_of_cell? w _ hx213_0)).trans hx213_0
                      replace hx213_1 := (HB.out.cell (World.block_lt_of_cell? w _ hx213_1)).trans hx213_1
                      have HR213_1 := Aside0.mk hi213_1
                      have HC213_1 := Aside0.mk hl213_1
                      clear hi213_1 hl213_1
                      replace p213 := eq_true p213
                      replace q213 := eq_true q213
                      have ea_ := Option.some.inj (hx211_1.symm.trans hx213_1)
                      injection ea_ with ea_ en_ ec_
                      subst ea_
                      subst ec_
                      clear en_
                      have p214 : 0 ≤ (x5_2 : Int) := of_decide_eq_true (by first | (with_reducible assumption) | assumption)
                      have q214 : x5_2 < (l1_5.length : Int) := of_decide_eq_true (by first | (with_reducible assumption) | assumption)
                      obtain ⟨ad214, A214_1, c214_1, e214, hx214_0, hx214_1, hl214_1, hi214_1⟩ := at_T43 HR1_5.out x5_2 p214 q214
                      obtain rfl : ad212 = ad214 := (by injection e214)
                      replace hx214_0 := (HB.out.cell (World.block_lt_of_cell? w _ hx214_0)).trans hx214_0
                      replace hx214_1 := (HB.out.cell (World.block_lt_of_cell? w _ hx214_1)).trans hx214_1
                      have HR214_1 := Aside0.mk hi214_1
                      have HC214_1 := Aside0.mk hl214_1
                      clear hi214_1 hl214_1
                      replace p214 := eq_true p214
                      replace q214 := eq_true q214
                      have ea_ := Option.some.inj (hx212_1.symm.trans hx214_1)
                      injection ea_ with ea_ en_ ec_
                      subst ea_
                      subst ec_
                      clear en_
                      go_wp2_with (first | (go_at_call 28; (with_reducible refine (dobbyref14_alike.calls k2 _ _ ((rd_T43 l0_5 x5_2).f1) _ _ ((rd_T43 l1_5 x5_2).f1) true _ ?side1 ?side2 ?side3 ?side4 A35.out).mono ?_); (case side1 => repeat (first | exact (Kd.C_below HR213_1.out HB.out) | (with_reducible refine Kd.C_alloc ?_ _) | (with_reducible refine Kd.C_drewN ?_ _) | (with_reducible refine Kd.C_drew ?_))); (case side2 => exact HC213_1.out); (case side3 => repeat (first | exact (Kd.C_below HR214_1.out HB.out) | (with_reducible refine Kd.C_alloc ?_ _) | (with_reducible refine Kd.C_drewN ?_ _) | (with_reducible refine Kd.C_drew ?_))); (case side4 => exact HC214_1.out); rintro e w' ⟨rfl, ⟨nd, rfl⟩⟩; (try first | exact ⟨rfl, _, World.drewN_drewN _ _ _⟩ | exact ⟨rfl, _, Eq.trans (World.drewN_drewN _ _ _) (congrArg (World.drewN _) (Nat.add_assoc _ _ _))⟩)))
                      repeat (go_quiet (first | (go_at_call 28; (with_reducible refine (dobbyref14_alike.calls k2 _ _ ((rd_T43 l0_5 x5_2).f1) _ _ ((rd_T43 l1_5 x5_2).f1) true _ ?side1 ?side2 ?side3 ?side4 A35.out).mono ?_); (case side1 => repeat (first | exact (Kd.C_below HR213_1.out HB.out) | (with_reducible refine Kd.C_alloc ?_ _) | (with_reducible refine Kd.C_drewN ?_ _) | (with_reducible refine Kd.C_drew ?_))); (case side2 => exact HC213_1.out); (case side3 => repeat (first | exact (Kd.C_below HR214_1.out HB.out) | (with_reducible refine Kd.C_alloc ?_ _) | (with_reducible refine Kd.C_drewN ?_ _) | (with_reducible refine Kd.C_drew ?_))); (case side4 => exact HC214_1.out); rintro e w' ⟨rfl, ⟨nd, rfl⟩⟩; (try first | exact ⟨rfl, _, World.drewN_drewN _ _ _⟩ | exact ⟨rfl, _, Eq.trans (World.drewN_drewN _ _ _) (congrArg (World.drewN _) (Nat.add_assoc _ _ _))⟩))); try go_wp2_with (first | (go_at_call 28; (with_reducible refine (dobbyref14_alike.calls k2 _ _ ((rd_T43 l0_5 x5_2).f1) _ _ ((rd_T43 l1_5 x5_2).f1) true _ ?side1 ?side2 ?side3 ?side4 A35.out).mono ?_); (case side1 => repeat (first | exact (Kd.C_below HR213_1.out HB.out) | (with_reducible refine Kd.C_alloc ?_ _) | (with_reducible refine Kd.C_drewN ?_ _) | (with_reducible refine Kd.C_drew ?_))); (case side2 => exact HC213_1.out); (case side3 => repeat (first | exact (Kd.C_below HR214_1.out HB.out) | (with_reducible refine Kd.C_alloc ?_ _) | (with_reducible refine Kd.C_drewN ?_ _) | (with_reducible refine Kd.C_drew ?_))); (case side4 => exact HC214_1.out); rintro e w' ⟨rfl, ⟨nd, rfl⟩⟩; (try first | exact ⟨rfl, _, World.drewN_drewN _ _ _⟩ | exact ⟨rfl, _, Eq.trans (World.drewN_drewN _ _ _) (congrArg (World.drewN _) (Nat.add_assoc _ _ _))⟩))))
                      go_roundg k2
                      case measure => have := HJ2.out; have := HK2.out; omega
                      case rel => exact ⟨(wrap64 (x5_2 + 1)), (by first | rfl | (simp; done) | (simp [*]; done)), H', ⟨by have := HJ2.out; have := HK2.out; omega⟩, ⟨by (with_reducible repeat (first | refine blk_drewN ?_ _ | refine blk_drew ?_ | refine blk_alloc ?_ _)); exact BK208.out⟩, ⟨by (with_reducible repeat (first | refine blk_drewN ?_ _ | refine blk_drew ?_ | refine blk_alloc ?_ _)); exact BK209.out⟩, ⟨by repeat (first | (with_reducible first | exact HB.out | apply below_alloc | apply pw_below_drewN | apply below_drew1 | refine below_set ?_ GE208.out | refine below_set ?_ GE209.out) | exact HB.out)⟩⟩
                    · replace c36 := Bool.eq_false_iff.mpr c36
                      subst c36
                      have H1 : (some false) = some r := by rw [if_neg (show ¬ (false = true) by decide)] at H; exact H
                      clear H
                      have H := H1
                      clear H1
                      obtain rfl := Option.some.inj H
                      have hnb40 := NB208_209.out
                      have hnc40 := NB209_208.out
                      have hcz41_0 : wr.cell? ⟨gb208, 0, none⟩ = some (.bool a0_0) := (blk_cell BK208.out 0).trans rfl
                      have hcz41_1 : wr.cell? ⟨gb208, 1, none⟩ = some (.bool a0_1) := (blk_cell BK208.out 1).trans rfl
                      have hcz41_2 : wr.cell? ⟨gb208, 2, none⟩ = some (.bool a0_2) := (blk_cell BK208.out 2).trans rfl
                      have hcz41_3 : wr.cell? ⟨gb208, 3, none⟩ = some (.string a0_3) := (blk_cell BK208.out 3).trans rfl
                      have hcz41_4 : wr.cell? ⟨gb208, 4, none⟩ = some (.slice A0_4 l0_4.length c0_4) := (blk_cell BK208.out 4).trans rfl
                      have hcz41_5 : wr.cell? ⟨gb208, 5, none⟩ = some (.slice A0_5 l0_5.length c0_5) := (blk_cell BK208.out 5).trans rfl
                      have hfz41_0 := blk_frozen BK208.out 0
                      have hfz41_1 := blk_frozen BK208.out 1
                      have hfz41_2 := blk_frozen BK208.out 2
                      have hfz41_3 := blk_frozen BK208.out 3
                      have hfz41_4 := blk_frozen BK208.out 4
                      have hfz41_5 := blk_frozen BK208.out 5
                      have p211 : 0 ≤ (x5_2 : Int) := of_decide_eq_true (by first | (with_reducible assumption) | assumption)
                      have q211 : x5_2 < (l0_5.length : Int) := of_decide_eq_true (by first | (with_reducible assumption) | assumption)
                      obtain ⟨ad211, A211_1, c211_1, e211, hx211_0, hx211_1, hl211_1, hi211_1⟩ := at_T43 HR0_5.out x5_2 p211 q211
                      cases e211
                      replace hx211_0 := (HB.out.cell (World.block_lt_of_cell? w _ hx211_0)).trans hx211_0
                      replace hx211_1 := (HB.out.cell (World.block_lt_of_cell? w _ hx211_1)).trans hx211_1
                      have HR211_1 := Aside0.mk hi211_1
                      have HC211_1 := Aside0.mk hl211_1
                      clear hi211_1 hl211_1
                      replace p211 := eq_true p211
                      replace q211 := eq_true q211
                      have hcz42_0 : wr.cell? ⟨gb209, 0, none⟩ = some (.bool a1_0) := (blk_cell BK209.out 0).trans rfl
                      have hcz42_1 : wr.cell? ⟨gb209, 1, none⟩ = some (.bool a1_1) := (blk_cell BK209.out 1).trans rfl
                      have hcz42_2 : wr.cell? ⟨gb209, 2, none⟩ = some (.bool a1_2) := (blk_cell BK209.out 2).trans rfl
                      have hcz42_3 : wr.cell? ⟨gb209, 3, none⟩ = some (.string a1_3) := (blk_cell BK209.out 3).trans rfl
                      have hcz42_4 : wr.cell? ⟨gb209, 4, none⟩ = some (.slice A1_4 l1_4.length c1_4) := (blk_cell BK209.out 4).trans rfl
                      have hcz42_5 : wr.cell? ⟨gb209, 5, none⟩ = some (.slice A1_5 l1_5.length c1_5) := (blk_cell BK209.out 5).trans rfl
                      have hfz42_0 := blk_frozen BK209.out 0
                      have hfz42_1 := blk_frozen BK209.out 1
                      have hfz42_2 := blk_frozen BK209.out 2
                      have hfz42_3 := blk_frozen BK209.out 3
                      have hfz42_4 := blk_frozen BK209.out 4
                      have hfz42_5 := blk_frozen BK209.out 5
                      have p212 : 0 ≤ (x5_2 : Int) := of_decide_eq_true (by first | (with_reducible assumption) | assumption)
                      have q212 : x5_2 < (l1_5.length : Int) := of_decide_eq_true (by first | (with_reducible assumption) | assumption)
                      obtain ⟨ad212, A212_1, c212_1, e212, hx212_0, hx212_1, hl212_1, hi212_1⟩ := at_T43 HR1_5.out x5_2 p212 q212
                      cases e212
                      replace hx212_0 := (HB.out.cell (World.block_lt_of_cell? w _ hx212_0)).trans hx212_0
                      replace hx212_1 := (HB.out.cell (World.block_lt_of_cell? w _ hx212_1)).trans hx212_1
                      have HR212_1 := Aside0.mk hi212_1
                      have HC212_1 := Aside0.mk hl212_1
                      clear hi212_1 hl212_1
                      replace p212 := eq_true p212
                      replace q212 := eq_true q212
                      have p213 : 0 ≤ (x5_2 : Int) := of_decide_eq_true (by first | (with_reducible assumption) | assumption)
                      have q213 : x5_2 < (l0_5.length : Int) := of_decide_eq_true (by first | (with_reducible assumption) | assumption)
                      obtain ⟨ad213, A213_1, c213_1, e213, hx213_0, hx213_1, hl213_1, hi213_1⟩ := at_T43 HR0_5.out x5_2 p213 q213
                      obtain rfl : ad211 = ad213 := (by injection e213)
                      replace hx213_0 := (HB.out.cell (World.block_lt_of_cell? w _ hx213_0)).trans hx213_0
                      replace hx213_1 := (HB.out.cell (World.block_lt_of_cell? w _ hx213_1)).trans hx213_1
                      have HR213_1 := Aside0.mk hi213_1
                      have HC213_1 := Aside0.mk hl213_1
                      clear hi213_1 hl213_1
                      replace p213 := eq_true p213
                      replace q213 := eq_true q213
                      have ea_ := Option.some.inj (hx211_1.symm.trans hx213_1)
                      injection ea_ with ea_ en_ ec_
                      subst ea_
                      subst ec_
                      clear en_
                      have p214 : 0 ≤ (x5_2 : Int) := of_decide_eq_true (by first | (with_reducible assumption) | assumption)
                      have q214 : x5_2 < (l1_5.length : Int) := of_decide_eq_true (by first | (with_reducible assumption) | assumption)
                      obtain ⟨ad214, A214_1, c214_1, e214, hx214_0, hx214_1, hl214_1, hi214_1⟩ := at_T43 HR1_5.out x5_2 p214 q214
                      obtain rfl : ad212 = ad214 := (by injection e214)
                      replace hx214_0 := (HB.out.cell (World.block_lt_of_cell? w _ hx214_0)).trans hx214_0
                      replace hx214_1 := (HB.out.cell (World.block_lt_of_cell? w _ hx214_1)).trans hx214_1
                      have HR214_1 := Aside0.mk hi214_1
                      have HC214_1 := Aside0.mk hl214_1
                      clear hi214_1 hl214_1
                      replace p214 := eq_true p214
                      replace q214 := eq_true q214
                      have ea_ := Option.some.inj (hx212_1.symm.trans hx214_1)
                      injection ea_ with ea_ en_ ec_
                      subst ea_
                      subst ec_
                      clear en_
                      go_wp2_with (first | (go_at_call 28; (with_reducible refine (dobbyref14_alike.calls k2 _ _ ((rd_T43 l0_5 x5_2).f1) _ _ ((rd_T43 l1_5 x5_2).f1) false _ ?side1 ?side2 ?side3 ?side4 A35.out).mono ?_); (case side1 => repeat (first | exact (Kd.C_below HR213_1.out HB.out) | (with_reducible refine Kd.C_alloc ?_ _) | (with_reducible refine Kd.C_drewN ?_ _) | (with_reducible refine Kd.C_drew ?_))); (case side2 => exact HC213_1.out); (case side3 => repeat (first | exact (Kd.C_below HR214_1.out HB.out) | (with_reducible refine Kd.C_alloc ?_ _) | (with_reducible refine Kd.C_drewN ?_ _) | (with_reducible refine Kd.C_drew ?_))); (case side4 => exact HC214_1.out); rintro e w' ⟨rfl, ⟨nd, rfl⟩⟩; (try first | exact ⟨rfl, _, World.drewN_drewN _ _ _⟩ | exact ⟨rfl, _, Eq.trans (World.drewN_drewN _ _ _) (congrArg (World.drewN _) (Nat.add_assoc _ _ _))⟩)))
                      repeat (go_quiet (first | (go_at_call 28; (with_reducible refine (dobbyref14_alike.calls k2 _ _ ((rd_T43 l0_5 x5_2).f1) _ _ ((rd_T43 l1_5 x5_2).f1) false _ ?side1 ?side2 ?side3 ?side4 A35.out).mono ?_); (case side1 => repeat (first | exact (Kd.C_below HR213_1.out HB.out) | (with_reducible refine Kd.C_alloc ?_ _) | (with_reducible refine Kd.C_drewN ?_ _) | (with_reducible refine Kd.C_drew ?_))); (case side2 => exact HC213_1.out); (case side3 => repeat (first | exact (Kd.C_below HR214_1.out HB.out) | (with_reducible refine Kd.C_alloc ?_ _) | (with_reducible refine Kd.C_drewN ?_ _) | (with_reducible refine Kd.C_drew ?_))); (case side4 => exact HC214_1.out); rintro e w' ⟨rfl, ⟨nd, rfl⟩⟩; (try first | exact ⟨rfl, _, World.drewN_drewN _ _ _⟩ | exact ⟨rfl, _, Eq.trans (World.drewN_drewN _ _ _) (congrArg (World.drewN _) (Nat.add_assoc _ _ _))⟩))); try go_wp2_with (first | (go_at_call 28; (with_reducible refine (dobbyref14_alike.calls k2 _ _ ((rd_T43 l0_5 x5_2).f1) _ _ ((rd_T43 l1_5 x5_2).f1) false _ ?side1 ?side2 ?side3 ?side4 A35.out).mono ?_); (case side1 => repeat (first | exact (Kd.C_below HR213_1.out HB.out) | (with_reducible refine Kd.C_alloc ?_ _) | (with_reducible refine Kd.C_drewN ?_ _) | (with_reducible refine Kd.C_drew ?_))); (case side2 => exact HC213_1.out); (case side3 => repeat (first | exact (Kd.C_below HR214_1.out HB.out) | (with_reducible refine Kd.C_alloc ?_ _) | (with_reducible refine Kd.C_drewN ?_ _) | (with_reducible refine Kd.C_drew ?_))); (case side4 => exact HC214_1.out); rintro e w' ⟨rfl, ⟨nd, rfl⟩⟩; (try first | exact ⟨rfl, _, World.drewN_drewN _ _ _⟩ | exact ⟨rfl, _, Eq.trans (World.drewN_drewN _ _ _) (congrArg (World.drewN _) (Nat.add_assoc _ _ _))⟩))))
                      go_ret
                      exact ⟨by first | rfl | (simp [errW_none, errW_some] <;> rfl) | (simp [*, errW_none, errW_some] <;> rfl), by repeat (first | (with_reducible first | exact HB.out | apply below_alloc | apply pw_below_drewN | apply below_drew1 | refine below_set ?_ GE208.out | refine below_set ?_ GE209.out) | exact HB.out)⟩
                  · rw [if_neg c34] at H
                    have c34b0 : (((rd_T43 l0_5 x5_2).f0) == ((rd_T43 l1_5 x5_2).f0)) = false := beq_eq_false_iff_ne.mpr c34
                    have c34b1 : (((rd_T43 l0_5 x5_2).f0) != ((rd_T43 l1_5 x5_2).f0)) = true := bne_iff_ne.mpr c34
                    obtain rfl := Option.some.inj H
                    have hnb43 := NB208_209.out
                    have hnc43 := NB209_208.out
                    have hcz44_0 : wr.cell? ⟨gb208, 0, none⟩ = some (.bool a0_0) := (blk_cell BK208.out 0).trans rfl
                    have hcz44_1 : wr.cell? ⟨gb208, 1, none⟩ = some (.bool a0_1) := (blk_cell BK208.out 1).trans rfl
                    have hcz44_2 : wr.cell? ⟨gb208, 2, none⟩ = some (.bool a0_2) := (blk_cell BK208.out 2).trans rfl
                    have hcz44_3 : wr.cell? ⟨gb208, 3, none⟩ = some (.string a0_3) := (blk_cell BK208.out 3).trans rfl
                    have hcz44_4 : wr.cell? ⟨gb208, 4, none⟩ = some (.slice A0_4 l0_4.length c0_4) := (blk_cell BK208.out 4).trans rfl
                    have hcz44_5 : wr.cell? ⟨gb208, 5, none⟩ = some (.slice A0_5 l0_5.length c0_5) := (blk_cell BK208.out 5).trans rfl
                    have hfz44_0 := blk_frozen BK208.out 0
                    have hfz44_1 := blk_frozen BK208.out 1
                    have hfz44_2 := blk_frozen BK208.out 2
                    have hfz44_3 := blk_frozen BK208.out 3
                    have hfz44_4 := blk_frozen BK208.out 4
                    have hfz44_5 := blk_frozen BK208.out 5
                    have p211 : 0 ≤ (x5_2 : Int) := of_decide_eq_true (by first | (with_reducible assumption) | assumption)
                    have q211 : x5_2 < (l0_5.length : Int) := of_decide_eq_true (by first | (with_reducible assumption) | assumption)
                    obtain ⟨ad211, A211_1, c211_1, e211, hx211_0, hx211_1, hl211_1, hi211_1⟩ := at_T43 HR0_5.out x5_2 p211 q211
                    cases e211
                    replace hx211_0 := (HB.out.cell (World.block_lt_of_cell? w _ hx211_0)).trans hx211_0
                    replace hx211_1 := (HB.out.cell (World.block_lt_of_cell? w _ hx211_1)).trans hx211_1
                    have HR211_1 := Aside0.mk hi211_1
                    have HC211_1 := Aside0.mk hl211_1
                    clear hi211_1 hl211_1
                    replace p211 := eq_true p211
                    replace q211 := eq_true q211
                    have hcz45_0 : wr.cell? ⟨gb209, 0, none⟩ = some (.bool a1_0) := (blk_cell BK209.out 0).trans rfl
                    have hcz45_1 : wr.cell? ⟨gb209, 1, none⟩ = some (.bool a1_1) := (blk_cell BK209.out 1).trans rfl
                    have hcz45_2 : wr.cell? ⟨gb209, 2, none⟩ = some (.bool a1_2) := (blk_cell BK209.out 2).trans rfl
                    have hcz45_3 : wr.cell? ⟨gb209, 3, none⟩ = some (.string a1_3) := (blk_cell BK209.out 3).trans rfl
                    have hcz45_4 : wr.cell? ⟨gb209, 4, none⟩ = some (.slice A1_4 l1_4.length c1_4) := (blk_cell BK209.out 4).trans rfl
                    have hcz45_5 : wr.cell? ⟨gb209, 5, none⟩ = some (.slice A1_5 l1_5.length c1_5) := (blk_cell BK209.out 5).trans rfl
                    have hfz45_0 := blk_frozen BK209.out 0
                    have hfz45_1 := blk_frozen BK209.out 1
                    have hfz45_2 := blk_frozen BK209.out 2
                    have hfz45_3 := blk_frozen BK209.out 3
                    have hfz45_4 := blk_frozen BK209.out 4
                    have hfz45_5 := blk_frozen BK209.out 5
                    have p212 : 0 ≤ (x5_2 : Int) := of_decide_eq_true (by first | (with_reducible assumption) | assumption)
                    have q212 : x5_2 < (l1_5.length : Int) := of_decide_eq_true (by first | (with_reducible assumption) | assumption)
                    obtain ⟨ad212, A212_1, c212_1, e212, hx212_0, hx212_1, hl212_1, hi212_1⟩ := at_T43 HR1_5.out x5_2 p212 q212
                    cases e212
                    replace hx212_0 := (HB.out.cell (World.block_lt_of_cell? w _ hx212_0)).trans hx212_0
                    replace hx212_1 := (HB.out.cell (World.block_lt_of_cell? w _ hx212_1)).trans hx212_1
                    have HR212_1 := Aside0.mk hi212_1
                    have HC212_1 := Aside0.mk hl212_1
                    clear hi212_1 hl212_1
                    replace p212 := eq_true p212
                    replace q212 := eq_true q212
                    go_wp2
                    repeat (go_quiet (fail); try go_wp2)
                    go_ret
                    exact ⟨by first | rfl | (simp [errW_none, errW_some] <;> rfl) | (simp [*, errW_none, errW_some] <;> rfl), by repeat (first | (with_reducible first | exact HB.out | apply below_alloc | apply pw_below_drewN | apply below_drew1 | refine below_set ?_ GE208.out | refine below_set ?_ GE209.out) | exact HB.out)⟩
                · rw [if_neg c33] at H
                  exact absurd H (by simp)
              · rw [if_neg c32] at H
                exact absurd H (by simp)
            · rw [if_neg c31] at H
              have c31b0 : decide (x5_2 < (l0_5.length : Int)) = false := decide_eq_false c31
              clear c31
              obtain rfl := Option.some.inj H
              have hnb46 := NB208_209.out
              have hnc46 := NB209_208.out
              have hcz47_0 : wr.cell? ⟨gb208, 0, none⟩ = some (.bool a0_0) := (blk_cell BK208.out 0).trans rfl
              have hcz47_1 : wr.cell? ⟨gb208, 1, none⟩ = some (.bool a0_1) := (blk_cell BK208.out 1).trans rfl
              have hcz47_2 : wr.cell? ⟨gb208, 2, none⟩ = some (.bool a0_2) := (blk_cell BK208.out 2).trans rfl
              have hcz47_3 : wr.cell? ⟨gb208, 3, none⟩ = some (.string a0_3) := (blk_cell BK208.out 3).trans rfl
              have hcz47_4 : wr.cell? ⟨gb208, 4, none⟩ = some (.slice A0_4 l0_4.length c0_4) := (blk_cell BK208.out 4).trans rfl
              have hcz47_5 : wr.cell? ⟨gb208, 5, none⟩ = some (.slice A0_5 l0_5.length c0_5) := (blk_cell BK208.out 5).trans rfl
              have hfz47_0 := blk_frozen BK208.out 0
              have hfz47_1 := blk_frozen BK208.out 1
              have hfz47_2 := blk_frozen BK208.out 2
              have hfz47_3 := blk_frozen BK208.out 3
              have hfz47_4 := blk_frozen BK208.out 4
              have hfz47_5 := blk_frozen BK208.out 5
              go_wp2
              repeat (go_quiet (fail); try go_wp2)
              go_ret
              exact ⟨by first | rfl | (simp [errW_none, errW_some] <;> rfl) | (simp [*, errW_none, errW_some] <;> rfl), by repeat (first | (with_reducible first | exact HB.out | apply below_alloc | apply pw_below_drewN | apply below_drew1 | refine below_set ?_ GE208.out | refine below_set ?_ GE209.out) | exact HB.out)⟩

end Go.Proofs.Ytiohiiekaofkbaa.PNamesPuts
