/- Texts of this claim, as far as they are used here: Q10, M5, M6, M7, L14. -/
import Derived.Test.YtiohiiekaofkbaaGreatDoorZ04
import Derived.Test.YtiohiiekaofkbaaGreatDoorZ11
import Derived.Test.YtiohiiekaofkbaaGreatDoorZ15
import Derived.Test.YtiohiiekaofkbaaGreatDoorZ01
/- Printed for this claim. -/
namespace Go.Proofs.YtiohiiekaofkbaaGreatDoor.PNamesReads
open Go.RowKit Go.Proofs.YtiohiiekaofkbaaGreatDoorW.PrintWords Go.Proofs.YtiohiiekaofkbaaGreatDoorW.PrintLast Go.Proofs.YtiohiiekaofkbaaGreatDoorW.PrintMore
attribute [local go_sem] max2_int min2_int max_two min_two max_three min_three max_four min_four
set_option linter.unusedVariables false
set_option linter.unusedSimpArgs false
def names_list.l0 : Nat → List Int → List (S149) → Int → Int → Option (List Int)
  | 0, _, _, _, _ => none
  | k + 1, x0, x12, x13, x14 => if x14 < x13 then (if 0 ≤ x14 then (if x14 < (x12.length : Int) then ((leb_PutU.f k x0 (IntKind.u64.wrap ((rd_T149 x12 x14).f0))).bind fun t397 => ((entry_PutText.f k t397 ((rd_T149 x12 x14).f1)).bind fun t400 => (names_list.l0 k t400 x12 x13 (wrap64 (x14 + 1))))) else (none)) else (none)) else (some x0)
def names_list.f (k : Nat) (l0 : List Int) (l1 : List (S149)) : Option (List Int) := (leb_PutU.f k l0 (IntKind.u64.wrap ((l1.length : Int)))).bind fun t392 => (names_list.l0 k t392 l1 (l1.length : Int) 0)
theorem names_list.mono_l : ∀ k, (∀ y0 y1 y2 y3, LeO (names_list.l0 k y0 y1 y2 y3) (names_list.l0 (k + 1) y0 y1 y2 y3))
  | 0 => fun _ _ _ _ r h => by simp [names_list.l0] at h
  | k + 1 => by
    have ih0 := names_list.mono_l k
    · intro y0 y1 y2 y3
      unfold names_list.l0
      repeat' first
      | (with_reducible exact ih0 _ _ _ _)
      | (with_reducible exact entry_PutText.mono _ _ _)
      | (with_reducible exact leb_PutU.mono _ _ _)
      | (with_reducible exact LeO.refl _)
      | (with_reducible exact LeO.none _)
      | (with_reducible refine LeO.ite ?_ ?_)
      | (with_reducible refine LeO.bind ?_ (fun _ => ?_))
      | exact ih0 _ _ _ _
      | exact entry_PutText.mono _ _ _
      | exact leb_PutU.mono _ _ _
      | exact LeO.none _
      | refine LeO.ite ?_ ?_
      | refine LeO.bind ?_ (fun _ => ?_)
theorem names_list.mono : ∀ a0 a1 k, LeO (names_list.f k a0 a1) (names_list.f (k + 1) a0 a1) := by
  intro a0 a1 k
  have ih0 := names_list.mono_l k
  unfold names_list.f
  repeat' first
      | (with_reducible exact ih0 _ _ _ _)
      | (with_reducible exact entry_PutText.mono _ _ _)
      | (with_reducible exact leb_PutU.mono _ _ _)
      | (with_reducible exact LeO.refl _)
      | (with_reducible exact LeO.none _)
      | (with_reducible refine LeO.ite ?_ ?_)
      | (with_reducible refine LeO.bind ?_ (fun _ => ?_))
      | exact ih0 _ _ _ _
      | exact entry_PutText.mono _ _ _
      | exact leb_PutU.mono _ _ _
      | exact LeO.none _
      | refine LeO.ite ?_ ?_
      | refine LeO.bind ?_ (fun _ => ?_)
def names_list.T5 : Bool × List (List Nat × List Nat) := (true, [([], []), ([], []), ([1], [1]), ([2], [2]), ([0, 3], [0, 3]), ([], []), ([5], [5]), ([4, 6, 4], [4, 6]), ([7, 7, 0, 1, 2, 3, 4, 5, 6, 7], [0, 7])])
def names_list.B5 : List Nat := [0, 0, 2, 6, 15, 0, 32, 127, 255]
theorem names_list.tab5 : rtab .any (opsOf Tryz.f57 5) = names_list.T5 := by kernel_rfl
theorem names_list.bits5 : waitsOk names_list.T5.2 names_list.B5 = true := by kernel_rfl
set_option maxHeartbeats 8000000 in
set_option maxRecDepth 100000 in
theorem names_list.calls (k : Nat) (P0_ : Nat → Prop) (u9000_ : Value) (l0 : List Int) (A1 : Option Addr) (c1 : Nat) (l1 : List (S149)) (r : List Int) (w0 w : World) (hB : Below w0.heap.size w0 w) (ho0 : Kd.R (Kd.int .u8) 5 w w0.heap.size P0_ u9000_ l0) (hr1 : ∀ W_, Kept w W_ (fun k_ => P0_ k_) → Kd.C k149 W_ A1 l1.length l1) (hc1 : l1.length ≤ c1) (h : names_list.f k l0 l1 = some r) :
    Calls Tryz.prog 57 #[u9000_, .slice A1 l1.length c1] w fun e w' => ∃ v0_ : Value, e = .returned (v0_) ∧ Kd.R (Kd.int .u8) 5 w' w0.heap.size (fun k_ => (P0_ k_ ∨ w.heap.size ≤ k_)) v0_ r ∧ Below w0.heap.size w0 w' ∧ Kept w w' (fun k_ => P0_ k_) := by
  have hu149 := Tryz.underlying149
  have HO0 := Aside0.mk (show Kd.R (Kd.int .u8) 5 w w0.heap.size (fun k_ => (P0_ k_ ∨ w.heap.size ≤ k_)) u9000_ l0 from Kd.R_mono ho0 (fun k_ hk => (.inl hk)))
  have HR1 := Aside0.mk hr1
  have HC1 := Aside0.mk hc1
  clear hr1 hc1
  have HK := Aside0.mk (Kept.refl w (fun k_ => P0_ k_))
  have HW0 := Aside0.mk hB.size
  have HB := Aside0.mk hB
  clear hB
  have H : ((leb_PutU.f k l0 (IntKind.u64.wrap ((l1.length : Int)))).bind fun t392 => (names_list.l0 k t392 l1 (l1.length : Int) 0)) = some r := h
  clear h
  replace H := Option.bind_eq_some_iff.mp H
  obtain ⟨t392, A30, H⟩ := H
  replace H : (names_list.l0 k t392 l1 (l1.length : Int) 0) = some r := H
  have A3 := Aside0.mk A30
  clear A30
  have H' := Aside0.mk H
  clear H
  obtain ⟨Ao4, co4, eo4⟩ := Kd.R_slice HO0.out
  subst eo4
  go_enter Tryz.func57, Tryz.ntmps57
  go_wp2_with (first | ((with_reducible refine gate_callee (f := 56) rfl ?_); refine goesL_ (some 11) rfl rfl Tryz.func56 (by kernel_rfl) rfl #[.slice Ao4 l0.length co4, .int .u64 (IntKind.u64.wrap ((l1.length : Int)))] rfl (by (try simp only [List.map_toArray, List.map_cons, List.map_nil]); first | done | rfl | (simp only [List.length_drop, List.length_take]; rfl)) ?_; (with_reducible refine (leb_PutU.calls k (fun k_ => some k_ = (.slice Ao4 l0.length co4 : Value).ownBlock) (.slice Ao4 l0.length co4) l0 (IntKind.u64.wrap ((l1.length : Int))) t392 w0 _ ?side1 ?side2 A3.out).mono ?_); (case side1 => repeat (first | (with_reducible first | exact HB.out | apply below_alloc | apply pw_below_drewN | apply below_drew1) | exact HB.out)); (case side2 => exact Kd.R_tight rfl HO0.out); rintro e w5 ⟨v393, rfl, ho0, hb, hkp⟩; refine ⟨_, rfl, ?_⟩; have n0_ := Aside0.mk (Kd.R_mono (ok' := fun k_ => (P0_ k_ ∨ w.heap.size ≤ k_)) ho0 (fun k_ hk_ => Or.elim hk_ (fun hs_ => (HO0.out.1 k_ (hs_).symm)) (fun hn_ => (.inr (Nat.le_trans (by first | exact HK.out.1 | exact (show Kept w _ (fun k_ => P0_ k_) from by repeat (first | (with_reducible first | exact HK.out | apply Kept.alloc | apply Kept.drewN | apply Kept.drew) | exact HK.out)).1) hn_))))); have n1_ := Aside0.mk (Kept.then_ (S := (fun k_ => P0_ k_)) (by repeat (first | (with_reducible first | exact HK.out | apply Kept.alloc | apply Kept.drewN | apply Kept.drew) | exact HK.out)) hkp (fun k_ hs_ => (fun e_ => (HO0.out.1 k_ e_.symm)) hs_)); have n2_ := Aside0.mk (hb); clear HK; clear HB; clear HO0; have HO394 := n0_; have HK := n1_; have HB := n2_; clear n0_ n1_ n2_; (try clear hb); (try clear hkp); (try clear ho0)))
  go_loopg [0, 14] k (fun kq v0 v14 w' => ∃ (x0_1 : List Int) (x14_1 : Int), v14 = .int .i64 x14_1 ∧ Aside0 (names_list.l0 kq x0_1 l1 (l1.length : Int) x14_1 = some r) ∧ Aside0 (kq ≤ k) ∧ Aside0 (Kd.R (Kd.int .u8) 5 w' w0.heap.size (fun k_ => (P0_ k_ ∨ w.heap.size ≤ k_)) v0 x0_1) ∧ Aside0 (Kept w w' (fun k_ => P0_ k_)) ∧ Aside0 (Below w0.heap.size w0 w'))
  case atStart => exact ⟨(t392), (0), (by first | rfl | (simp; done) | (simp [*]; done)), H', ⟨Nat.le_refl _⟩, ⟨by (with_reducible repeat (first | apply Kd.R_alloc | apply Kd.R_drewN | apply Kd.R_drew)); exact HO394.out⟩, ⟨by repeat (first | (with_reducible first | exact HK.out | apply Kept.alloc | apply Kept.drewN | apply Kept.drew) | exact HK.out)⟩, ⟨by repeat (first | (with_reducible first | exact HB.out | apply below_alloc | apply pw_below_drewN | apply below_drew1) | exact HB.out)⟩⟩
  case round =>
    clear H'
    try clear c1
    try clear p2
    try clear c5
    obtain ⟨x0_1, x14_1, rfl, HA, HK1, HO_0, HK, HB⟩ := hrel
    cases gk with
    | zero => exact absurd HA.out (by simp [names_list.l0])
    | succ k1 =>
      have H := HA.out
      clear HA
      simp only [names_list.l0] at H
      by_cases c6 : x14_1 < (l1.length : Int)
      · rw [if_pos c6] at H
        have c6b0 : decide (x14_1 < (l1.length : Int)) = true := decide_eq_true c6
        clear c6
        by_cases c7 : 0 ≤ x14_1
        · rw [if_pos c7] at H
          have c7b0 : decide (0 ≤ x14_1) = true := decide_eq_true c7
          clear c7
          by_cases c8 : x14_1 < (l1.length : Int)
          · rw [if_pos c8] at H
            have c8b0 : decide (x14_1 < (l1.length : Int)) = true := decide_eq_true c8
            clear c8
            replace H := Option.bind_eq_some_iff.mp H
            obtain ⟨t397, A90, H⟩ := H
            replace H : ((entry_PutText.f k1 t397 ((rd_T149 l1 x14_1).f1)).bind fun t400 => (names_list.l0 k1 t400 l1 (l1.length : Int) (wrap64 (x14_1 + 1)))) = some r := H
            have A9 := Aside0.mk A90
            clear A90
            replace H := Option.bind_eq_some_iff.mp H
            obtain ⟨t400, A100, H⟩ := H
            replace H : (names_list.l0 k1 t400 l1 (l1.length : Int) (wrap64 (x14_1 + 1))) = some r := H
            have A10 := Aside0.mk A100
            clear A100
            have H' := Aside0.mk H
            clear H
            have p395 : 0 ≤ (x14_1 : Int) := of_decide_eq_true (by first | (with_reducible assumption) | assumption)
            have q395 : x14_1 < (l1.length : Int) := of_decide_eq_true (by first | (with_reducible assumption) | assumption)
            obtain ⟨ad395, e395, hx395_0, hx395_1⟩ := at_T149 (Kd.C_kept_now HR1.out HK.out) x14_1 p395 q395
            cases e395
            replace p395 := eq_true p395
            replace q395 := eq_true q395
            try go_wp2_with (first | ((with_reducible refine gate_dst (N := 6) rfl ?_); refine box_event ?hg (N := 6) ?hd (cs := #[.int .u32 0, .string (⟨#[]⟩ : ByteArray)]) (t := 149) ?hr ?_; (case hd => rfl); (case hg => rfl); (case hr => first | (go_simp; done) | (go_simp; rfl)); intro gb396 hg w11 hbox hb; have n0_ := Aside0.mk (Kd.R_below (by (with_reducible repeat (first | apply Kd.R_alloc | apply Kd.R_drewN | apply Kd.R_drew)); exact HO_0.out) hb); have n1_ := Aside0.mk (Kept.below (S := (fun k_ => P0_ k_)) (by repeat (first | (with_reducible first | exact HK.out | apply Kept.alloc | apply Kept.drewN | apply Kept.drew) | exact HK.out)) hb); have n2_ := Aside0.mk (below_step (by repeat (first | (with_reducible first | exact HB.out | apply below_alloc | apply pw_below_drewN | apply below_drew1) | exact HB.out)) hb); have n3_ := Aside0.mk (hbox); have n4_ := Aside0.mk ((by rw [hg]; exact (by first | exact HK.out.1 | exact (show Kept w _ (fun k_ => P0_ k_) from by repeat (first | (with_reducible first | exact HK.out | apply Kept.alloc | apply Kept.drewN | apply Kept.drew) | exact HK.out)).1) : w.heap.size ≤ gb396)); have n5_ := Aside0.mk ((by rw [hg]; exact (below_size (by repeat (first | (with_reducible first | exact HB.out | apply below_alloc | apply pw_below_drewN | apply below_drew1) | exact HB.out))) : w0.heap.size ≤ gb396)); clear HO_0; clear HK; clear HB; have HO_0 := n0_; have HK := n1_; have HB := n2_; have BK396 := n3_; have GW396 := n4_; have GE396 := n5_; clear n0_ n1_ n2_ n3_ n4_ n5_; clear hb hbox hg; have hcz12_0 : w11.cell? ⟨gb396, 0, none⟩ = some (.int .u32 0) := (blk_cell BK396.out 0).trans rfl; have hcz12_1 : w11.cell? ⟨gb396, 1, none⟩ = some (.string (⟨#[]⟩ : ByteArray)) := (blk_cell BK396.out 1).trans rfl; have hfz12_0 := blk_frozen BK396.out 0; have hfz12_1 := blk_frozen BK396.out 1))
            have n0_ : Aside0 (Kd.R (Kd.int .u8) 5 ((w11.setCell ⟨gb396, 0, none⟩ (.int .u32 ((rd_T149 l1 x14_1).f0))).setCell ⟨gb396, 1, none⟩ (.string ((rd_T149 l1 x14_1).f1))) w0.heap.size (fun k_ => (P0_ k_ ∨ w.heap.size ≤ k_)) u0 x0_1) := ⟨by (with_reducible repeat (first | apply Kd.R_alloc | apply Kd.R_drewN | apply Kd.R_drew)); exact Kd.R_mono (Kd.R_far (p := ⟨gb396, 1, none⟩) (Kd.R_far (p := ⟨gb396, 0, none⟩) (Kd.R_types HO_0.out BK396.out (by decide)) (fun _ hk => hk.2) (.int .u32 ((rd_T149 l1 x14_1).f0))) (fun _ hk => hk.2) (.string ((rd_T149 l1 x14_1).f1))) (fun _ hk => hk.1)⟩
            have n1_ : Aside0 (((w11.setCell ⟨gb396, 0, none⟩ (.int .u32 ((rd_T149 l1 x14_1).f0))).setCell ⟨gb396, 1, none⟩ (.string ((rd_T149 l1 x14_1).f1))).heap[gb396]? = some (.cells #[.int .u32 ((rd_T149 l1 x14_1).f0), .string ((rd_T149 l1 x14_1).f1)] 149 (0, 0))) := ⟨by (with_reducible repeat (first | refine blk_drewN ?_ _ | refine blk_drew ?_ | refine blk_alloc ?_ _)); refine blk_put (cs := #[.int .u32 ((rd_T149 l1 x14_1).f0), .string (⟨#[]⟩ : ByteArray)]) ?_ 1 _ rfl; (with_reducible repeat (first | refine blk_drewN ?_ _ | refine blk_drew ?_ | refine blk_alloc ?_ _)); refine blk_put (cs := #[.int .u32 0, .string (⟨#[]⟩ : ByteArray)]) ?_ 0 _ rfl; (with_reducible repeat (first | refine blk_drewN ?_ _ | refine blk_drew ?_ | refine blk_alloc ?_ _)); exact BK396.out⟩
            have n2_ : Aside0 (Kept w ((w11.setCell ⟨gb396, 0, none⟩ (.int .u32 ((rd_T149 l1 x14_1).f0))).setCell ⟨gb396, 1, none⟩ (.string ((rd_T149 l1 x14_1).f1))) (fun k_ => P0_ k_)) := ⟨by repeat (first | (with_reducible first | exact HK.out | apply Kept.alloc | apply Kept.drewN | apply Kept.drew | refine Kept.setCell ?_ (.inr GW396.out) _) | exact HK.out)⟩
            have n3_ : Aside0 (Below w0.heap.size w0 ((w11.setCell ⟨gb396, 0, none⟩ (.int .u32 ((rd_T149 l1 x14_1).f0))).setCell ⟨gb396, 1, none⟩ (.string ((rd_T149 l1 x14_1).f1)))) := ⟨by repeat (first | (with_reducible first | exact HB.out | apply below_alloc | apply pw_below_drewN | apply below_drew1 | refine below_set ?_ GE396.out) | exact HB.out)⟩
            (try clear HO_0)
            (try clear BK396)
            (try clear HK)
            (try clear HB)
            generalize ((w11.setCell ⟨gb396, 0, none⟩ (.int .u32 ((rd_T149 l1 x14_1).f0))).setCell ⟨gb396, 1, none⟩ (.string ((rd_T149 l1 x14_1).f1))) = w13 at n0_ n1_ n2_ n3_ ⊢
            have HO_0 := n0_
            have BK396 := n1_
            have HK := n2_
            have HB := n3_
            clear n0_ n1_ n2_ n3_
            have n0_ := Aside0.mk (Kd.R_drew HO_0.out)
            have n1_ := Aside0.mk (blk_drew BK396.out)
            have n2_ := Aside0.mk (Kept.drew HK.out)
            have n3_ := Aside0.mk (below_drew1 HB.out)
            clear HO_0
            clear BK396
            clear HK
            clear HB
            have HO_0 := n0_
            have BK396 := n1_
            have HK := n2_
            have HB := n3_
            clear n0_ n1_ n2_ n3_
            obtain ⟨Ao15, co15, eo15⟩ := Kd.R_slice HO_0.out
            (first | subst eo15 | (injection eo15 with f1_ f2_ f3_; have f4_ := f1_.symm; have f5_ := f3_.symm; clear f1_ f2_ f3_; subst f4_; subst f5_))
            refine start_ (n := 9) (S := fun w' => w'.cell? ⟨gb396, 0, none⟩ = some (.int .u32 ((rd_T149 l1 x14_1).f0)) ∧ w'.cell? ⟨gb396, 1, none⟩ = some (.string ((rd_T149 l1 x14_1).f1))) (ds := []) #[false, false, false, false, false, false, false, false, false] (by kernel_rfl) rfl rfl ⟨(blk_cell BK396.out 0).trans rfl, (blk_cell BK396.out 1).trans rfl⟩ (fun hHeld => ?_); refine with_tabW names_list.tab5 names_list.bits5 (fun HT_ HW_ => ?_)
            generalize w13.drew = w14 at HO_0 BK396 HK HB hHeld ⊢
            refine pure_ (i := 0) (N := some 18) (v := ?_) (a' := ?_) #[true, false, false, false, false, false, false, false, false] rfl rfl (any_of HT_.out (by kernel_rfl)) (fun _ _ _ h => h) (Or.inl ⟨by rfl, ?_⟩) ?_ ?_
            rotate_left
            · intro w'
              go_simp
              with_reducible rfl
            rotate_left
            · simp only [Act.put, List.setIfInBounds_toArray, List.set_cons_zero, List.set_cons_succ, i64_w, i32_w]
              rfl
            refine pure_ (i := 1) (N := some 19) (v := ?_) (a' := ?_) #[true, true, false, false, false, false, false, false, false] rfl rfl (any_of HT_.out (by kernel_rfl)) (fun _ _ _ h => h) (Or.inl ⟨by rfl, ?_⟩) ?_ ?_
            rotate_left
            · intro w'
              go_simp
              with_reducible rfl
            rotate_left
            · simp only [Act.put, List.setIfInBounds_toArray, List.set_cons_zero, List.set_cons_succ, i64_w, i32_w]
              rfl
            refine pure_ (i := 5) (N := some 23) (v := ?_) (a' := ?_) #[true, true, false, false, false, true, false, false, false] rfl rfl (any_of HT_.out (by kernel_rfl)) (fun _ _ _ h => h) (Or.inl ⟨by rfl, ?_⟩) ?_ ?_
            rotate_left
            · intro w'
              go_simp
              with_reducible rfl
            rotate_left
            · simp only [Act.put, List.setIfInBounds_toArray, List.set_cons_zero, List.set_cons_succ, i64_w, i32_w]
              rfl
            refine take_ (i := 2) (N := some 20) (v := ?_) (a' := ?_) #[true, true, true, false, false, true, false, false, false] rfl rfl (take_ofW HT_.out HW_.out (by kernel_rfl)) (fun _ _ _ h => h) (Or.inl ⟨by rfl, ?_⟩) hHeld ?_ ?_
            rotate_left
            · rintro w' ⟨s0, s1⟩
              go_simp
              with_reducible rfl
            rotate_left
            · simp only [Act.put, List.setIfInBounds_toArray, List.set_cons_zero, List.set_cons_succ, i64_w, i32_w]
              rfl
            refine pure_ (i := 3) (N := some 21) (v := ?_) (a' := ?_) #[true, true, true, true, false, true, false, false, false] rfl rfl (any_of HT_.out (by kernel_rfl)) (fun _ _ _ h => h) (Or.inl ⟨by rfl, ?_⟩) ?_ ?_
            rotate_left
            · intro w'
              go_simp
              with_reducible rfl
            rotate_left
            · simp only [Act.put, List.setIfInBounds_toArray, List.set_cons_zero, List.set_cons_succ, i64_w, i32_w]
              rfl
            refine take_ (i := 6) (N := some 24) (v := ?_) (a' := ?_) #[true, true, true, true, false, true, true, false, false] rfl rfl (take_ofW HT_.out HW_.out (by kernel_rfl)) (fun _ _ _ h => h) (Or.inl ⟨by rfl, ?_⟩) hHeld ?_ ?_
            rotate_left
            · rintro w' ⟨s0, s1⟩
              go_simp
              with_reducible rfl
            rotate_left
            · simp only [Act.put, List.setIfInBounds_toArray, List.set_cons_zero, List.set_cons_succ, i64_w, i32_w]
              rfl
            refine one_ (i := 4) (N := some 22) #[true, true, true, true, true, true, true, false, false] rfl rfl (one_of HT_.out (by kernel_rfl)) (by decide) (fun K hK => ?_)
            refine goes_ Tryz.func56 (by kernel_rfl) rfl #[.slice Ao15 x0_1.length co15, .int .u64 (IntKind.u64.wrap ((rd_T149 l1 x14_1).f0))] (by rfl) rfl rfl (by (try simp only [List.map_toArray, List.map_cons, List.map_nil]); first | done | rfl | (simp only [List.length_drop, List.length_take]; rfl)) ?_
            with_reducible refine (leb_PutU.calls k1 (fun k_ => some k_ = (.slice Ao15 x0_1.length co15 : Value).ownBlock) (.slice Ao15 x0_1.length co15) x0_1 (IntKind.u64.wrap ((rd_T149 l1 x14_1).f0)) t397 w0 _ ?side1 ?side2 A9.out).mono ?_
            (case side1 => repeat (first | (with_reducible first | exact HB.out | apply below_alloc | apply pw_below_drewN | apply below_drew1 | refine below_set ?_ GE396.out) | exact HB.out))
            (case side2 => exact Kd.R_tight rfl HO_0.out)
            rintro e w16 ⟨v398, rfl, ho0, hb, hkp⟩
            refine ⟨_, rfl, ?_⟩
            have n0_ := Aside0.mk (blk_kept (by (with_reducible repeat (first | refine blk_drewN ?_ _ | refine blk_drew ?_ | refine blk_alloc ?_ _)); exact BK396.out) hkp (fun hs_ => (fun e_ => (Kd.R_ne HO_0.out BK396.out (by decide)) e_) hs_))
            have n1_ := Aside0.mk (Kd.R_mono (ok' := fun k_ => (P0_ k_ ∨ w.heap.size ≤ k_)) ho0 (fun k_ hk_ => Or.elim hk_ (fun hs_ => (HO_0.out.1 k_ (hs_).symm)) (fun hn_ => (.inr (Nat.le_trans (by first | exact HK.out.1 | exact (show Kept w _ (fun k_ => P0_ k_) from by repeat (first | (with_reducible first | exact HK.out | apply Kept.alloc | apply Kept.drewN | apply Kept.drew | refine Kept.setCell ?_ (.inr GW396.out) _) | exact HK.out)).1) hn_)))))
            have n2_ := Aside0.mk (Kept.then_ (S := (fun k_ => P0_ k_)) (by repeat (first | (with_reducible first | exact HK.out | apply Kept.alloc | apply Kept.drewN | apply Kept.drew | refine Kept.setCell ?_ (.inr GW396.out) _) | exact HK.out)) hkp (fun k_ hs_ => (fun e_ => (HO_0.out.1 k_ e_.symm)) hs_))
            have n3_ := Aside0.mk (hb)
            clear BK396
            clear HK
            clear HB
            clear HO_0
            have BK396 := n0_
            have HO399 := n1_
            have HK := n2_
            have HB := n3_
            clear n0_ n1_ n2_ n3_
            (try clear hb)
            (try clear hkp)
            (try clear ho0)
            obtain ⟨Ao17, co17, eo17⟩ := Kd.R_slice HO399.out
            (first | subst eo17 | (injection eo17 with f1_ f2_ f3_; have f4_ := f1_.symm; have f5_ := f3_.symm; clear f1_ f2_ f3_; subst f4_; subst f5_))
            refine hK.out _ _ ⟨(blk_cell BK396.out 0).trans rfl, (blk_cell BK396.out 1).trans rfl⟩ (fun hHeld => ?_)
            clear hK K
            refine norm_ (a' := ?_) ?_ ?_
            rotate_left
            · show Act.put _ (some 22) _ = _
              simp only [Act.put, List.setIfInBounds_toArray, List.set_cons_zero, List.set_cons_succ, i64_w, i32_w]
              rfl
            refine one_ (i := 7) (N := some 25) #[true, true, true, true, true, true, true, true, false] rfl rfl (one_of HT_.out (by kernel_rfl)) (by decide) (fun K hK => ?_)
            refine goes_ Tryz.func58 (by kernel_rfl) rfl #[.slice Ao17 t397.length co17, .string ((rd_T149 l1 x14_1).f1)] (by rfl) rfl rfl (by (try simp only [List.map_toArray, List.map_cons, List.map_nil]); first | done | rfl | (simp only [List.length_drop, List.length_take]; rfl)) ?_
            with_reducible refine (entry_PutText.calls k1 (fun k_ => some k_ = (.slice Ao17 t397.length co17 : Value).ownBlock) (.slice Ao17 t397.length co17) t397 ((rd_T149 l1 x14_1).f1) t400 w0 _ ?side1 ?side2 A10.out).mono ?_
            (case side1 => repeat (first | (with_reducible first | exact HB.out | apply below_alloc | apply pw_below_drewN | apply below_drew1 | refine below_set ?_ GE396.out) | exact HB.out))
            (case side2 => exact Kd.R_tight rfl HO399.out)
            rintro e w18 ⟨v401, rfl, ho0, hb, hkp⟩
            refine ⟨_, rfl, ?_⟩
            have n0_ := Aside0.mk (blk_kept (by (with_reducible repeat (first | refine blk_drewN ?_ _ | refine blk_drew ?_ | refine blk_alloc ?_ _)); exact BK396.out) hkp (fun hs_ => (fun e_ => (Kd.R_ne HO399.out BK396.out (by decide)) e_) hs_))
            have n1_ := Aside0.mk (Kd.R_mono (ok' := fun k_ => (P0_ k_ ∨ w.heap.size ≤ k_)) ho0 (fun k_ hk_ => Or.elim hk_ (fun hs_ => (HO399.out.1 k_ (hs_).symm)) (fun hn_ => (.inr (Nat.le_trans (by first | exact HK.out.1 | exact (show Kept w _ (fun k_ => P0_ k_) from by repeat (first | (with_reducible first | exact HK.out | apply Kept.alloc | apply Kept.drewN | apply Kept.drew | refine Kept.setCell ?_ (.inr GW396.out) _) | exact HK.out)).1) hn_)))))
            have n2_ := Aside0.mk (Kept.then_ (S := (fun k_ => P0_ k_)) (by repeat (first | (with_reducible first | exact HK.out | apply Kept.alloc | apply Kept.drewN | apply Kept.drew | refine Kept.setCell ?_ (.inr GW396.out) _) | exact HK.out)) hkp (fun k_ hs_ => (fun e_ => (HO399.out.1 k_ e_.symm)) hs_))
            have n3_ := Aside0.mk (hb)
            clear BK396
            clear HK
            clear HB
            clear HO399
            have BK396 := n0_
            have HO402 := n1_
            have HK := n2_
            have HB := n3_
            clear n0_ n1_ n2_ n3_
            (try clear hb)
            (try clear hkp)
            (try clear ho0)
            refine hK.out _ _ ⟨(blk_cell BK396.out 0).trans rfl, (blk_cell BK396.out 1).trans rfl⟩ (fun hHeld => ?_)
            clear hK K
            refine norm_ (a' := ?_) ?_ ?_
            rotate_left
            · show Act.put _ (some 25) _ = _
              simp only [Act.put, List.setIfInBounds_toArray, List.set_cons_zero, List.set_cons_succ, i64_w, i32_w]
              rfl
            refine pure_ (i := 8) (N := some 0) (v := ?_) (a' := ?_) #[true, true, true, true, true, true, true, true, true] rfl rfl (any_of HT_.out (by kernel_rfl)) (fun _ _ _ h => h) (Or.inl ⟨by rfl, ?_⟩) ?_ ?_
            rotate_left
            · intro w'
              go_simp
              with_reducible rfl
            rotate_left
            · simp only [Act.put, List.setIfInBounds_toArray, List.set_cons_zero, List.set_cons_succ, i64_w, i32_w]
              rfl
            refine done_ (done_of HT_.out (by kernel_rfl)) ?_
            try go_wp2
            go_roundg k1
            case measure => have := HK1.out; omega
            case rel => exact ⟨(t400), (wrap64 (x14_1 + 1)), (by first | rfl | (simp; done) | (simp [*]; done)), H', ⟨by have := HK1.out; omega⟩, ⟨by (with_reducible repeat (first | apply Kd.R_alloc | apply Kd.R_drewN | apply Kd.R_drew)); exact HO402.out⟩, ⟨by repeat (first | (with_reducible first | exact HK.out | apply Kept.alloc | apply Kept.drewN | apply Kept.drew | refine Kept.setCell ?_ (.inr GW396.out) _) | exact HK.out)⟩, ⟨by repeat (first | (with_reducible first | exact HB.out | apply below_alloc | apply pw_below_drewN | apply below_drew1 | refine below_set ?_ GE396.out) | exact HB.out)⟩⟩
          · rw [if_neg c8] at H
            exact absurd H (by simp)
        · rw [if_neg c7] at H
          exact absurd H (by simp)
      · rw [if_neg c6] at H
        have c6b0 : decide (x14_1 < (l1.length : Int)) = false := decide_eq_false c6
        clear c6
        obtain rfl := Option.some.inj H
        go_wp2
        go_ret
        exact ⟨_, by first | rfl | (simp [errW_none, errW_some] <;> rfl) | (simp [*, errW_none, errW_some] <;> rfl), by (with_reducible repeat (first | apply Kd.R_alloc | apply Kd.R_drewN | apply Kd.R_drew)); exact HO_0.out, by repeat (first | (with_reducible first | exact HB.out | apply below_alloc | apply pw_below_drewN | apply below_drew1) | exact HB.out), by repeat (first | (with_reducible first | exact HK.out | apply Kept.alloc | apply Kept.drewN | apply Kept.drew) | exact HK.out)⟩
end Go.Proofs.YtiohiiekaofkbaaGreatDoor.PNamesReads
/- What is put: numbers, texts, lists of names, as lists of bytes. -/
namespace Go.Proofs.YtiohiiekaofkbaaGreatDoor
set_option linter.unusedVariables false
set_option linter.unusedSimpArgs false
open Go.RowKit Go.Proofs.YtiohiiekaofkbaaGreatDoor.PNamesReads Go.Proofs.YtiohiiekaofkbaaGreatDoorW.PrintWords
theorem or128' (x : Int) (h0 : 0 ≤ x) (h : x < 256) : bits .or .u8 x 128 = x % 128 + 128 := by
  obtain ⟨n, rfl⟩ : ∃ n : Nat, x = n := ⟨x.toNat, by omega⟩
  have hn : n < 256 := by omega
  have key : ∀ m : Fin 256, bits .or .u8 ((m.val : Nat) : Int) 128 = ((m.val : Nat) : Int) % 128 + 128 := by decide +kernel
  exact key ⟨n, hn⟩
theorem putU_loop (k : Nat) : ∀ (l : List Int) (x : Int), 0 ≤ x → (uL x).length ≤ k → l.length + (uL x).length ≤ 1000000000 → leb_PutU.l0 k l x = some (l ++ uL x) := by
  induction k with
  | zero => intro l x _ h _; have := uL_pos x; omega
  | succ k ih =>
    intro l x h0 hk hl
    simp only [leb_PutU.l0]
    by_cases h : x < 128
    · rw [uL_small h] at hl ⊢
      simp only [List.length_singleton] at hl
      rw [if_neg (by omega), if_pos (by omega), show x % 256 = x by omega]
    · rw [uL_big (by omega)] at hk hl ⊢
      simp only [List.length_cons] at hk hl
      rw [if_pos (by omega), if_pos (by omega), or128' _ (by omega) (by omega), show x % 256 % 128 + 128 = x % 128 + 128 by omega]
      rw [ih _ _ (by omega) (by omega) (by simp; omega)]
      simp
theorem uL_max (x : Int) (h0 : 0 ≤ x) (h : x ≤ 18446744073709551615) : (uL x).length ≤ 10 := uL_len10 h0 h
theorem putU_some {l : List Int} {x : Int} {k : Nat} (h0 : 0 ≤ x) (h : x ≤ 18446744073709551615) (hk : 10 ≤ k) (hl : l.length ≤ 900000000) : leb_PutU.f k l x = some (l ++ uL x) := by
  have := uL_max x h0 h
  exact putU_loop k l x h0 (by omega) (by omega)
def txt (s : ByteArray) : List Int := uL s.size ++ bytesOf s
theorem txt_len (s : ByteArray) (h : s.size ≤ 1000000000) : (txt s).length ≤ s.size + 10 := by
  have := uL_max s.size (by omega) (by omega)
  rw [txt, List.length_append, bytesOf_length]; omega
theorem putText_some {l : List Int} {s : ByteArray} {k : Nat} (hs : s.size ≤ 1000000000) (hk : 10 ≤ k) (hl : l.length ≤ 900000000) : entry_PutText.f k l s = some (l ++ txt s) := by
  unfold entry_PutText.f
  have hm := uL_max s.size (by omega) (by omega)
  rw [wu, show ((s.size : Int)) % 18446744073709551616 = s.size by omega, putU_some (by omega) (by omega) hk hl, Option.bind_some, if_pos (by rw [List.length_append]; omega), txt, List.append_assoc]
def nmB (x : S149) : List Int := uL x.f0 ++ txt x.f1
def nmsB (l : List S149) : List Int := l.flatMap nmB
def nlB (l : List S149) : List Int := uL l.length ++ nmsB l
def U32s (l : List S149) : Prop := ∀ x ∈ l, 0 ≤ x.f0 ∧ x.f0 ≤ 4294967295
theorem rd_Name (l : List S149) (i : Nat) (h : i < l.length) : rd_T149 l i = l[i] := by
  simp [rd_T149, List.getD_eq_getElem?_getD, List.getElem?_eq_getElem h]
theorem list_loop (l : List S149) (hU : U32s l) (hl : l.length ≤ 1000000000) (d : Nat) : ∀ (i : Nat) (b : List Int) (k : Nat), i + d = l.length → d + 10 < k → b.length + (nmsB (l.drop i)).length ≤ 800000000 →
    names_list.l0 k b l l.length i = some (b ++ nmsB (l.drop i)) := by
  induction d with
  | zero =>
    intro i b k hi hk _
    obtain ⟨k, rfl⟩ : ∃ m, k = m + 1 := ⟨k - 1, by omega⟩
    simp only [names_list.l0]
    rw [if_neg (by omega), List.drop_eq_nil_of_le (by omega)]; simp [nmsB]
  | succ d ih =>
    intro i b k hi hk hb
    obtain ⟨k, rfl⟩ : ∃ m, k = m + 1 := ⟨k - 1, by omega⟩
    have hlt : i < l.length := by omega
    obtain ⟨u0, u1⟩ := hU _ (List.getElem_mem hlt)
    have hd : nmsB (l.drop i) = nmB l[i] ++ nmsB (l.drop (i + 1)) := by rw [List.drop_eq_getElem_cons hlt]; rfl
    rw [hd] at hb ⊢
    have hn : (nmB l[i]).length = (uL l[i].f0).length + ((uL (l[i].f1.size : Int)).length + l[i].f1.size) := by simp [nmB, txt, bytesOf_length]
    rw [List.length_append, hn] at hb
    simp only [names_list.l0]
    rw [if_pos (by omega), if_pos (by omega), if_pos (by omega), rd_Name l i hlt, wu, show l[i].f0 % 18446744073709551616 = l[i].f0 by omega, putU_some u0 (by omega) (by omega) (by omega), Option.bind_some,
      putText_some (by omega) (by omega) (by rw [List.length_append]; omega), Option.bind_some, show wrap64 ((i : Int) + 1) = ((i + 1 : Nat) : Int) by unfold wrap64; omega, ih (i + 1) _ k (by omega) (by omega) (by simp only [List.length_append, txt, bytesOf_length]; omega)]
    simp [nmB]
theorem list_some {l : List S149} {b : List Int} (hU : U32s l) (hb : b.length + (nlB l).length ≤ 800000000) (hl : l.length ≤ 1000000000) : names_list.f (l.length + 11) b l = some (b ++ nlB l) := by
  unfold names_list.f
  have e : (nlB l).length = (uL (l.length : Int)).length + (nmsB l).length := by rw [nlB, List.length_append]
  rw [wu, show ((l.length : Int)) % 18446744073709551616 = l.length by omega, putU_some (by omega) (by omega) (by omega) (by omega), Option.bind_some]
  have := list_loop l hU hl l.length 0 (b ++ uL (l.length : Int)) (l.length + 11) (by omega) (by omega) (by simp only [List.length_append, List.drop_zero]; omega)
  rw [show ((0 : Nat) : Int) = 0 from rfl] at this
  rw [this]; simp [nlB]
def Rw (w : World) (base : Nat) (ok : Nat → Prop) (v : Value) (l : List Int) : Prop := Kd.R (Kd.int .u8) 5 w base ok v l
def PK (w0 w : World) (P : Nat → Prop) (l : List Int) (e : Ending) (w' : World) : Prop := ∃ v, e = .returned v ∧ Rw w' w0.heap.size (fun k => P k ∨ w.heap.size ≤ k) v l ∧ Below w0.heap.size w0 w' ∧ Kept w w' P
theorem putU_kept (P : Nat → Prop) (v : Value) (l : List Int) (x : Int) (w0 w : World) (hB : Below w0.heap.size w0 w) (ho : Rw w w0.heap.size P v l) (h0 : 0 ≤ x) (h : x ≤ 18446744073709551615) (hl : l.length ≤ 900000000) :
    Calls Tryz.prog 56 #[v, .int .u64 x] w (PK w0 w P (l ++ uL x)) :=
  (leb_PutU.calls 10 P v l x _ w0 w hB ho (putU_some h0 h (by omega) hl)).mono fun _ _ ⟨v0, h1, h2, h3, h4⟩ => ⟨v0, h1, h2, h3, h4.mono fun _ hk => hk⟩
theorem putText_kept (P : Nat → Prop) (v : Value) (l : List Int) (s : ByteArray) (w0 w : World) (hB : Below w0.heap.size w0 w) (ho : Rw w w0.heap.size P v l) (hs : s.size ≤ 1000000000) (hl : l.length ≤ 900000000) :
    Calls Tryz.prog 58 #[v, .string s] w (PK w0 w P (l ++ txt s)) :=
  (entry_PutText.calls 10 P v l s _ w0 w hB ho (putText_some hs (by omega) hl)).mono fun _ _ ⟨v0, h1, h2, h3, h4⟩ => ⟨v0, h1, h2, h3, h4⟩
theorem list_kept (P : Nat → Prop) (v : Value) (b : List Int) (A : Option Addr) (c : Nat) (l : List S149) (w0 w : World) (hB : Below w0.heap.size w0 w) (ho : Rw w w0.heap.size P v b) (hr : ∀ W, Kept w W P → Kd.C k149 W A l.length l) (hc : l.length ≤ c) (hU : U32s l) (hb : b.length + (nlB l).length ≤ 800000000) (hl : l.length ≤ 1000000000) :
    Calls Tryz.prog 57 #[v, .slice A l.length c] w (PK w0 w P (b ++ nlB l)) :=
  (names_list.calls _ P v b A c l _ w0 w hB ho hr hc (list_some hU hb hl)).mono fun _ _ ⟨v0, h1, h2, h3, h4⟩ => ⟨v0, h1, h2, h3, h4⟩
end Go.Proofs.YtiohiiekaofkbaaGreatDoor
/- The bytes of names: names.Put. -/
namespace Go.Proofs.YtiohiiekaofkbaaGreatDoor
set_option linter.unusedVariables false
set_option linter.unusedSimpArgs false
open Go.RowKit Go.Proofs.YtiohiiekaofkbaaGreatDoor.PNamesReads Go.Proofs.YtiohiiekaofkbaaGreatDoorW.PrintWords
theorem own_rw {w : World} {base : Nat} {ok : Nat → Prop} {v : Value} {l : List Int} (h : Rw w base ok v l) : Own w base v l := Kd.own_of_R h
theorem rw_own {w : World} {base : Nat} {ok : Nat → Prop} {v : Value} {l : List Int} (h : Own w base v l) (hok : ∀ k, v.ownBlock = some k → ok k) : Rw w base ok v l := Kd.R_of_own (h1 := fun _ => rfl) h hok
def Mine (v : Value) : Nat → Prop := fun k => v.ownBlock = some k
def PO (w0 w : World) (v : Value) (l : List Int) (e : Ending) (w' : World) : Prop := ∃ v', e = .returned v' ∧ Own w' w0.heap.size v' l ∧ Below w0.heap.size w0 w' ∧ Kept w w' (Mine v) ∧ (∀ k, v'.ownBlock = some k → v.ownBlock = some k ∨ w.heap.size ≤ k)
theorem po_of {w0 w : World} {v : Value} {l : List Int} {e : Ending} {w' : World} (h : PK w0 w (Mine v) l e w') : PO w0 w v l e w' := by
  obtain ⟨v', h1, h2, h3, h4⟩ := h
  exact ⟨v', h1, own_rw h2, h3, h4, fun k hk => h2.1 k hk⟩
theorem putU_own (v : Value) (l : List Int) (x : Int) (w0 w : World) (hB : Below w0.heap.size w0 w) (ho : Own w w0.heap.size v l) (h0 : 0 ≤ x) (h : x ≤ 18446744073709551615) (hl : l.length ≤ 900000000) :
    Calls Tryz.prog 56 #[v, .int .u64 x] w (PO w0 w v (l ++ uL x)) := (putU_kept (Mine v) v l x w0 w hB (rw_own ho fun _ hk => hk) h0 h hl).mono fun _ _ => po_of
theorem putText_own (v : Value) (l : List Int) (s : ByteArray) (w0 w : World) (hB : Below w0.heap.size w0 w) (ho : Own w w0.heap.size v l) (hs : s.size ≤ 1000000000) (hl : l.length ≤ 900000000) :
    Calls Tryz.prog 58 #[v, .string s] w (PO w0 w v (l ++ txt s)) := (putText_kept (Mine v) v l s w0 w hB (rw_own ho fun _ hk => hk) hs hl).mono fun _ _ => po_of
theorem list_own (v : Value) (b : List Int) (A : Option Addr) (c : Nat) (l : List S149) (w0 w : World) (hB : Below w0.heap.size w0 w) (ho : Own w w0.heap.size v b) (hC : Kd.C k149 w0 A l.length l) (hc : l.length ≤ c) (hU : U32s l) (hb : b.length + (nlB l).length ≤ 800000000) (hl : l.length ≤ 1000000000) :
    Calls Tryz.prog 57 #[v, .slice A l.length c] w (PO w0 w v (b ++ nlB l)) :=
  (list_kept (Mine v) v b A c l w0 w hB (rw_own ho fun _ hk => hk) (Kd.C_kept_came (Kd.heap_iso _ (Kd.heap_pair (Kd.heap_int _) Kd.heap_string)) hC hB (fun k hk => (ho.lt k hk).1)) hc hU hb hl).mono fun _ _ => po_of
theorem own_nil' (W : World) (base : Nat) : Own W base (.slice none 0 0) [] := ⟨by simp [bv], .inl ⟨rfl, rfl⟩⟩
theorem own_below {w w' : World} {base : Nat} {v : Value} {l : List Int} (h : Own w base v l) (hb : Below w.heap.size w w') : Own w' base v l := pw_own_below h hb
def loB (x : S90) : List Int := uL x.f0 ++ nlB x.f1
def losB (l : List S90) : List Int := l.flatMap loB
def llB (l : List S90) : List Int := uL l.length ++ losB l
def sec (i : Int) (b : List Int) : List Int := i :: (uL b.length ++ b)
def putB (x : Ns) : List Int := (if x.hm then sec 0 (txt x.md) else []) ++ (if x.hf then sec 1 (nlB x.fs) else []) ++ (if x.hl then sec 2 (llB x.ls) else [])
def Ns.fit (x : Ns) : Prop := U32s x.fs ∧ (∀ y ∈ x.ls, 0 ≤ y.f0 ∧ y.f0 ≤ 4294967295 ∧ U32s y.f1) ∧ (txt x.md).length ≤ 100000000 ∧ (nlB x.fs).length ≤ 100000000 ∧ (llB x.ls).length ≤ 100000000
theorem rd_Local (l : List S90) (i : Nat) (h : i < l.length) : rd_T90 l i = l[i] := by
  simp [rd_T90, List.getD_eq_getElem?_getD, List.getElem?_eq_getElem h]
theorem losB_take (l : List S90) (i : Nat) (h : i < l.length) : losB (l.take (i + 1)) = losB (l.take i) ++ loB l[i] := by
  rw [List.take_succ_eq_append_getElem h]; unfold losB; rw [List.flatMap_append]; simp
theorem losB_le (l : List S90) (i : Nat) : (losB (l.take i)).length ≤ (losB l).length := by
  have e : losB l = losB (l.take i) ++ losB (l.drop i) := by unfold losB; rw [← List.flatMap_append, List.take_append_drop]
  rw [e, List.length_append]; omega
def BoxN (g : Nat) (b1 b2 b3 : Bool) (m : ByteArray) (vf vl : Value) (W : World) : Prop := W.cell? ⟨g, 0, none⟩ = some (.bool b1) ∧ W.cell? ⟨g, 1, none⟩ = some (.bool b2) ∧ W.cell? ⟨g, 2, none⟩ = some (.bool b3) ∧ W.cell? ⟨g, 3, none⟩ = some (.string m) ∧ W.cell? ⟨g, 4, none⟩ = some vf ∧ W.cell? ⟨g, 5, none⟩ = some vl
theorem BoxN.new (w : World) (b1 b2 b3 : Bool) (m : ByteArray) (vf vl : Value) (T : Nat) : BoxN w.heap.size b1 b2 b3 m vf vl (w.alloc (.cells #[.bool b1, .bool b2, .bool b3, .string m, vf, vl] T)) := by
  refine ⟨?_, ?_, ?_, ?_, ?_, ?_⟩ <;> simp [World.cell?_alloc_new]
theorem BoxN.kept {g : Nat} {b1 b2 b3 : Bool} {m : ByteArray} {vf vl : Value} {W W' : World} {S : Nat → Prop} (h : BoxN g b1 b2 b3 m vf vl W) (hk : Kept W W' S) (hS : ¬ S g) : BoxN g b1 b2 b3 m vf vl W' := by
  obtain ⟨h1, h2, h3, h4, h5, h6⟩ := h
  exact ⟨cell_kept h1 hk hS, cell_kept h2 hk hS, cell_kept h3 hk hS, cell_kept h4 hk hS, cell_kept h5 hk hS, cell_kept h6 hk hS⟩
theorem BoxN.below {g : Nat} {b1 b2 b3 : Bool} {m : ByteArray} {vf vl : Value} {W W' : World} (h : BoxN g b1 b2 b3 m vf vl W) (hb : Below W.heap.size W W') : BoxN g b1 b2 b3 m vf vl W' := h.kept (Kept.of_below hb (fun _ => False)) (fun h => h)
theorem not_mine1 {v : Value} {n : Nat} (h : ∀ k, v.ownBlock = some k → k < n) : ¬ Mine v n := fun e => Nat.lt_irrefl _ (h _ e)
theorem not_mine2 {v v' : Value} {n N : Nat} (h : ∀ k, v.ownBlock = some k → k < n) (hn : ∀ k, v'.ownBlock = some k → v.ownBlock = some k ∨ N ≤ k) (hN : n < N) : ¬ Mine v' n := fun e => (hn _ e).elim (fun q => Nat.lt_irrefl _ (h _ q)) (fun q => by omega)
theorem nil_not (k : Nat) : ¬ Mine (.slice none 0 0) k := fun e => by simp [Mine, Value.ownBlock] at e
theorem own_kept {w w' : World} {base : Nat} {v : Value} {l : List Int} {S : Nat → Prop} (h : Own w base v l) (hk : Kept w w' S) (hn : ∀ k, v.ownBlock = some k → ¬ S k) : Own w' base v l :=
  own_rw (Kd.R_kept (rw_own (ok := Mine v) h (fun _ q => q)) hk hn)
def ptB (b1 b2 b3 : Bool) (a b c : List Int) : Nat → Bool × List Int
  | 0 => (b1, a)
  | 1 => (b2, b)
  | _ => (b3, c)
def outB (p : Nat → Bool × List Int) : Nat → List Int
  | 0 => []
  | i + 1 => outB p i ++ (if (p i).1 then sec i (p i).2 else [])
theorem outB_put (x : Ns) : outB (ptB x.hm x.hf x.hl (txt x.md) (nlB x.fs) (llB x.ls)) 3 = putB x := by
  simp only [outB, ptB, putB, List.nil_append]; rfl
def ByteL (l : List Int) : Prop := ∀ x ∈ l, 0 ≤ x ∧ x < 256
theorem ByteL.app {a b : List Int} (ha : ByteL a) (hb : ByteL b) : ByteL (a ++ b) := fun x hx => (List.mem_append.1 hx).elim (ha x) (hb x)
theorem uL_byte (n : Nat) : ∀ x : Int, x.toNat ≤ n → 0 ≤ x → ByteL (uL x) := by
  induction n with
  | zero => intro x hx h0; rw [uL_small (by omega)]; intro y hy; simp at hy; omega
  | succ n ih =>
    intro x hx h0
    by_cases h : x < 128
    · rw [uL_small h]; intro y hy; simp at hy; omega
    · rw [uL_big (by omega)]
      intro y hy
      rcases List.mem_cons.1 hy with rfl | hy
      · omega
      · exact ih _ (by omega) (by omega) y hy
theorem bytesOf_byte (s : ByteArray) : ByteL (bytesOf s) := by
  intro x hx
  simp only [bytesOf, List.mem_map] at hx
  obtain ⟨b, _, rfl⟩ := hx
  have := b.toNat_lt
  omega
theorem txt_byte (s : ByteArray) : ByteL (txt s) := (uL_byte _ _ (Nat.le_refl _) (by omega)).app (bytesOf_byte s)
theorem nmsB_byte (l : List S149) (h : U32s l) : ByteL (nmsB l) := by
  intro x hx
  simp only [nmsB, List.mem_flatMap] at hx
  obtain ⟨y, hy, hx⟩ := hx
  exact ((uL_byte _ _ (Nat.le_refl _) (h y hy).1).app (txt_byte _)) x hx
theorem nlB_byte (l : List S149) (h : U32s l) : ByteL (nlB l) := (uL_byte _ _ (Nat.le_refl _) (by omega)).app (nmsB_byte l h)
theorem llB_byte (l : List S90) (h : ∀ y ∈ l, 0 ≤ y.f0 ∧ y.f0 ≤ 4294967295 ∧ U32s y.f1) : ByteL (llB l) := by
  refine (uL_byte _ _ (Nat.le_refl _) (by omega)).app ?_
  intro x hx
  simp only [losB, List.mem_flatMap] at hx
  obtain ⟨y, hy, hx⟩ := hx
  exact ((uL_byte _ _ (Nat.le_refl _) (h y hy).1).app (nlB_byte _ (h y hy).2.2)) x hx
theorem ptB_byte {b1 b2 b3 : Bool} {a b c : List Int} (ha : ByteL a) (hb : ByteL b) (hc : ByteL c) : ∀ j, ByteL (ptB b1 b2 b3 a b c j).2
  | 0 => ha
  | 1 => hb
  | _ + 2 => hc
theorem ptB_len {b1 b2 b3 : Bool} {a b c : List Int} {n : Nat} (ha : a.length ≤ n) (hb : b.length ≤ n) (hc : c.length ≤ n) : ∀ j, (ptB b1 b2 b3 a b c j).2.length ≤ n
  | 0 => ha
  | 1 => hb
  | _ + 2 => hc
theorem outB_len {p : Nat → Bool × List Int} (h : ∀ j, (p j).2.length ≤ 100000000) : ∀ {i : Nat}, i ≤ 3 → (outB p i).length ≤ i * 100000011 := by
  intro i
  induction i with
  | zero => simp [outB]
  | succ i ih =>
    intro hi
    have := ih (by omega)
    have hm := uL_max (p i).2.length (by omega) (by have := h i; omega)
    have hi2 := h i
    simp only [outB, List.length_append]
    generalize (outB p i).length = X at *
    have hs : (sec i (p i).2).length = 1 + ((uL ((p i).2.length : Int)).length + (p i).2.length) := by simp [sec]; omega
    generalize (uL ((p i).2.length : Int)).length = Y at *
    generalize (p i).2.length = Z at *
    clear h ih
    rw [Nat.add_mul, Nat.one_mul]
    generalize i * 100000011 = K at *
    split
    · rw [hs]; omega
    · simp only [List.length_nil]; omega
theorem strOfNums_size (l : List Int) : (strOfNums l).size = l.length := by simp [strOfNums, ByteArray.size]
theorem bytesOf_str {l : List Int} (h : ByteL l) : bytesOf (strOfNums l) = l := by
  simp only [bytesOf, strOfNums, List.map_map]
  conv => rhs; rw [← List.map_id l]
  refine List.map_congr_left fun x hx => ?_
  have := h x hx
  simp
  omega
theorem txt_str {l : List Int} (h : ByteL l) : txt (strOfNums l) = uL l.length ++ l := by rw [txt, strOfNums_size, bytesOf_str h]
theorem PNamesInfo5 : (Tryz.prog.info? 5).map (fun i => (i.zero, i.size, i.bytes)) = some (some (.int .u8 0), 1, 1) := by kernel_rfl
theorem own_str {W : World} {base : Nat} {v : Value} {l : List Int} (h : Own W base v l) : (convert 72 9 v).run Tryz.prog W = .ok (.string (strOfNums l)) W :=
  own_string (e := 5) Tryz.underlying72 Tryz.underlying5 Tryz.underlying9 h
theorem app_one {w wr W' : World} {v v' : Value} {l : List Int} {x : Int} {o : Obj} {ga capa : Nat} (hB : Below w.heap.size w wr) (hO : Own wr w.heap.size v l)
    (h : W'.ownsRow w.heap.size 5 1 v' (l.length + 1) (bv l ++ [.int .u8 x])) (hv : v' = .slice (some ⟨ga, 0, none⟩) (l.length + 1) capa) (hg : (wr.alloc o).drew.grownBy W' v.ownBlock) (hat : v.ownBlock = some ga ∨ ga = (wr.alloc o).drew.heap.size) :
    Own W' w.heap.size v' (l ++ [x]) ∧ Below w.heap.size w W' ∧ Kept (wr.alloc o).drew W' (Mine v) ∧ (∀ k, v'.ownBlock = some k → v.ownBlock = some k ∨ wr.heap.size < k) := by
  refine ⟨by unfold Own; rw [bv_app, List.length_append]; exact h, ?_, Kept.of_grown hg (Kept.refl _ _) (fun k hk => .inl hk), ?_⟩
  · exact (below_drew (below_alloc hB o)).grown hg (by have := hB.size; simp; omega) (fun k hk => (hO.lt k hk).1)
  · intro k hk
    subst hv
    simp only [Value.ownBlock, Option.some.injEq] at hk
    subst hk
    rcases hat with h1 | h1
    · exact .inl h1
    · right; rw [h1]; simp [World.drew]
theorem nm_new {v v' : Value} {g N : Nat} (h : ∀ k, k ≤ g → ¬ Mine v k) (hn : ∀ k, v'.ownBlock = some k → v.ownBlock = some k ∨ N < k) (hN : g ≤ N) : ∀ k, k ≤ g → ¬ Mine v' k :=
  fun k hk e => (hn k e).elim (fun q => h k hk q) (fun q => by omega)
theorem keepQ {w0 W W' : World} {g i : Nat} {vq : Value} {a : List Int} {S : Nat → Prop} (h : W.cell? ⟨g, i, none⟩ = some vq ∧ (convert 72 9 vq).run Tryz.prog W = .ok (.string (strOfNums a)) W ∧ Own W w0.heap.size vq a ∧ Below w0.heap.size w0 W)
    (hl : ∀ k, vq.ownBlock = some k → k < g) (hk : Kept W W' S) (hS : ∀ k, k ≤ g → ¬ S k) (hb : Below w0.heap.size w0 W') :
    W'.cell? ⟨g, i, none⟩ = some vq ∧ (convert 72 9 vq).run Tryz.prog W' = .ok (.string (strOfNums a)) W' ∧ Own W' w0.heap.size vq a ∧ Below w0.heap.size w0 W' := by
  have ho := own_kept h.2.2.1 hk (fun k q => hS k (Nat.le_of_lt (hl k q)))
  exact ⟨cell_kept h.1 hk (hS g (Nat.le_refl _)), own_str ho, ho, hb⟩
structure AllAt (base g : Nat) (va vb vc : Value) (a b c : List Int) (W : World) : Prop where
  c0 : W.cell? ⟨g, 0, none⟩ = some va
  c1 : W.cell? ⟨g, 1, none⟩ = some vb
  c2 : W.cell? ⟨g, 2, none⟩ = some vc
  o0 : Own W base va a
  o1 : Own W base vb b
  o2 : Own W base vc c
  l0 : ∀ k, va.ownBlock = some k → k < g
  l1 : ∀ k, vb.ownBlock = some k → k < g
  l2 : ∀ k, vc.ownBlock = some k → k < g
theorem AllAt.kept {base g : Nat} {va vb vc : Value} {a b c : List Int} {W W' : World} {S : Nat → Prop} (h : AllAt base g va vb vc a b c W) (hk : Kept W W' S) (hS : ∀ k, k ≤ g → ¬ S k) : AllAt base g va vb vc a b c W' :=
  ⟨cell_kept h.c0 hk (hS g (Nat.le_refl _)), cell_kept h.c1 hk (hS g (Nat.le_refl _)), cell_kept h.c2 hk (hS g (Nat.le_refl _)), own_kept h.o0 hk (fun k q => hS k (Nat.le_of_lt (h.l0 k q))), own_kept h.o1 hk (fun k q => hS k (Nat.le_of_lt (h.l1 k q))), own_kept h.o2 hk (fun k q => hS k (Nat.le_of_lt (h.l2 k q))), h.l0, h.l1, h.l2⟩
theorem AllAt.below {base g : Nat} {va vb vc : Value} {a b c : List Int} {W W' : World} (h : AllAt base g va vb vc a b c W) (hb : Below W.heap.size W W') : AllAt base g va vb vc a b c W' := h.kept (Kept.of_below hb (fun _ => False)) (fun _ _ h => h)
theorem AllAt.new {base : Nat} {va vb vc : Value} {a b c : List Int} {W : World} {T : Nat} (h0 : Own W base va a) (h1 : Own W base vb b) (h2 : Own W base vc c) : AllAt base W.heap.size va vb vc a b c (W.alloc (.cells #[va, vb, vc] T)) := by
  have hb : Below W.heap.size W (W.alloc (.cells #[va, vb, vc] T)) := bel
  exact ⟨by simp [World.cell?_alloc_new], by simp [World.cell?_alloc_new], by simp [World.cell?_alloc_new], own_below h0 hb, own_below h1 hb, own_below h2 hb, fun k q => (h0.lt k q).2, fun k q => (h1.lt k q).2, fun k q => (h2.lt k q).2⟩
theorem keep3 {w0 W W' : World} {B : Nat} {S : Nat → Prop} {p1 p2 : Addr} {a b : Value} (h : W.cell? p1 = some a ∧ W.cell? p2 = some b ∧ Below B w0 W) (hk : Kept W W' S) (n1 : ¬ S p1.block) (n2 : ¬ S p2.block) (hb : Below B w0 W') : W'.cell? p1 = some a ∧ W'.cell? p2 = some b ∧ Below B w0 W' := ⟨cell_kept h.1 hk n1, cell_kept h.2.1 hk n2, hb⟩
theorem keep3a {w0 W : World} {p1 p2 : Addr} {a b : Value} {o : Obj} (h : W.cell? p1 = some a ∧ W.cell? p2 = some b ∧ Below w0.heap.size w0 W) : (W.alloc o).cell? p1 = some a ∧ (W.alloc o).cell? p2 = some b ∧ Below w0.heap.size w0 (W.alloc o) :=
  keep3 h (Kept.alloc (Kept.refl _ (fun _ => False)) _) (fun h => h) (fun h => h) (below_alloc h.2.2 o)
theorem keepK2 {W W' : World} {S : Nat → Prop} {p1 p2 : Addr} {a b : Value} (h : W.cell? p1 = some a ∧ W.cell? p2 = some b) (hk : Kept W W' S) (n1 : ¬ S p1.block) (n2 : ¬ S p2.block) : W'.cell? p1 = some a ∧ W'.cell? p2 = some b := ⟨cell_kept h.1 hk n1, cell_kept h.2 hk n2⟩
set_option maxRecDepth 100000 in
set_option maxHeartbeats 8000000 in
theorem put_walk (x : Ns) (A : Option Addr) (c : Nat) (B : Option Addr) (d : Nat) (w : World) (hx : x.at A c B d w) (hs : x.small) (hf : x.fit) :
    Calls Tryz.prog 36 #[.agg #[.bool x.hm, .bool x.hf, .bool x.hl, .string x.md, .slice A x.fs.length c, .slice B x.ls.length d]] w fun e w' => e = .returned (.tuple #[.string (if nrightB x then strOfNums (putB x) else ⟨#[]⟩), .int .i64 (if nrightB x then 0 else 3)]) ∧ Below w.heap.size w w' := by
  have hu := Tryz.underlying26
  have hu2 := Tryz.underlying90
  have HR := hid (fun W (h : Below w.heap.size w W) => right_walk x A c B d W (hx.below h) hs)
  have HX := hid hx
  have HS := hid hs
  have HF := hid hf
  have h1 := hs.2.1
  have h2 := hs.2.2.1
  clear hx hs hf
  rcases hr : nrightB x with _ | _
  · rw [hr] at HR
    clear hr
    simp only [Bool.false_eq_true, if_false]
    go_enter Tryz.func36, Tryz.ntmps36
    go_wp2_with (first | (go_at_call 55; refine (HR.out _ bel).mono ?_; rintro e w' ⟨rfl, hb1⟩; (first | have hq1 := hz1 | have hq1 := True.intro); (first | have hq0 := hz0 | have hq0 := True.intro); obtain ⟨hcc, hff⟩ := bcell hb1; have hz1 := hb1.size; (try simp at hz1); (try have hy1 := Nat.lt_of_lt_of_le hq1 hz1); (try have hy0 := Nat.lt_of_lt_of_le hq0 hz1); (try replace hz1 := Nat.lt_of_succ_le hz1); (try have hz0 := Nat.lt_of_succ_lt hz1)))
    refine bodyPost_ret (v := .tuple #[.string ⟨#[]⟩, .int .i64 3]) ?_ rfl ⟨rfl, bel⟩
    simp [results, Tryz.results36, go_sem]
  · rw [hr] at HR
    clear hr
    simp only [if_true]
    obtain ⟨b1, b2, b3, m, f, l⟩ := x
    dsimp only at HR h1 h2 ⊢
    have XL : Hid (Kd.C k90 w B l.length l) := HX.out.2.2.1
    have XF : Hid (Kd.C k149 w A f.length f) := HX.out.1
    have XC : f.length ≤ c := HX.out.2.1
    have UF : Hid (U32s f) := HF.out.1
    have UL : Hid (∀ y ∈ l, 0 ≤ y.f0 ∧ y.f0 ≤ 4294967295 ∧ U32s y.f1) := HF.out.2.1
    have LM : Hid ((txt m).length ≤ 100000000) := HF.out.2.2.1
    have LF : Hid ((nlB f).length ≤ 100000000) := HF.out.2.2.2.1
    have LL : Hid ((llB l).length ≤ 100000000) := HF.out.2.2.2.2
    have SM : m.size ≤ 1000000000 := HS.out.1
    have SL : Hid (Short l) := HS.out.2.2.2.2
    clear HX HF HS
    go_enter Tryz.func36, Tryz.ntmps36
    go_upto_region 3 with (first | (go_at_call 55; refine (HR.out _ bel).mono ?_; rintro e w' ⟨rfl, hb1⟩; (first | have hq1 := hz1 | have hq1 := True.intro); (first | have hq0 := hz0 | have hq0 := True.intro); obtain ⟨hcc, hff⟩ := bcell hb1; have hz1 := hb1.size; (try simp at hz1); (try have hy1 := Nat.lt_of_lt_of_le hq1 hz1); (try have hy0 := Nat.lt_of_lt_of_le hq0 hz1); (try replace hz1 := Nat.lt_of_succ_le hz1); (try have hz0 := Nat.lt_of_succ_lt hz1)))
    have KN := hid ((BoxN.new w b1 b2 b3 m (.slice A f.length c) (.slice B l.length d) 26).below hb1)
    have KB := hid (below_call (bel : Below w.heap.size w (w.alloc (.cells #[.bool b1, .bool b2, .bool b3, .string m, .slice A f.length c, .slice B l.length d] 26))) hb1 (by simp))
    clear hb1 hcc hff hq1 hq0
    have k5 := KN.out.2.2.2.2.2
    have HP := hid (putU_own (.slice none 0 0) [] l.length w w' KB.out (own_nil' _ _) (by omega) (by omega) (by simp))
    go_upto_region 4 with (first | (go_at_call 56; refine HP.out.mono ?_; rintro e w2 ⟨v4, rfl, ho, hb, hk, hn⟩))
    have KN2 := hid (KN.out.kept hk (fun h => by simp [Mine, Value.ownBlock] at h))
    have HN2 := hid (show ∀ k, v4.ownBlock = some k → w.heap.size < k from fun k hk => by
      rcases hn k hk with h | h
      · simp [Value.ownBlock] at h
      · omega)
    have HO2 := hid ho
    have HB2 := hid hb
    have hz2 : w.heap.size < w2.heap.size := Nat.lt_of_lt_of_le hz1 hk.1
    clear ho hb hk hn k5 HP KN KB hz1
    have k5 := KN2.out.2.2.2.2.2
    go_wp2
    go_loopw [4, 22] (fun v4 v22 wr => ∃ i : Nat, v22 = .int .i64 i ∧ i ≤ l.length ∧ Hid (Own wr w.heap.size v4 (uL l.length ++ losB (l.take i))) ∧ Hid (∀ k, v4.ownBlock = some k → w.heap.size < k) ∧ Hid (BoxN w.heap.size b1 b2 b3 m (.slice A f.length c) (.slice B l.length d) wr) ∧ w.heap.size < wr.heap.size ∧ Hid (Below w.heap.size w wr)) (fun _ v22 _ => l.length - (intOf v22).toNat)
    case atStart => exact ⟨0, by go_num, by omega, hid (by simpa [losB] using HO2.out), HN2, KN2, hz2, HB2⟩
    case round =>
      obtain ⟨i, rfl, hi1, HO, HN, KN, hz, HB⟩ := hrel
      clear HO2 HN2 KN2 hz2 HB2 k5
      by_cases hlt : i < l.length
      · have hca := Kd.C_below XL.out HB.out
        obtain ⟨ad, A1, c1, rfl, e1, e2, l1, g1⟩ := at_T90 hca (i : Int) (by omega) (by omega)
        rw [Int.toNat_natCast] at e1 e2
        have hgi := rd_Local l i hlt
        have hU : 0 ≤ (rd_T90 l i).f0 ∧ (rd_T90 l i).f0 ≤ 4294967295 ∧ U32s (rd_T90 l i).f1 := by rw [hgi]; exact UL.out _ (List.getElem_mem hlt)
        obtain ⟨hU0, hU1, hU2⟩ := hU
        have hC0 : Kd.C k149 w A1 (rd_T90 l i).f1.length (rd_T90 l i).f1 := by
          obtain ⟨ad', A1', c1', hh, e1', e2', l1', g1'⟩ := at_T90 XL.out (i : Int) (by omega) (by omega)
          obtain rfl := Option.some.inj hh
          rw [Int.toNat_natCast] at e2'
          have := HB.out.cell (cell_ltM e2')
          rw [e2, e2'] at this
          simp only [Option.some.injEq, Value.slice.injEq] at this
          rw [this.1]; exact g1'
        have hlen := (SL.out i hlt).1
        have hsz2 : (uL (l.length : Int)).length + (losB (l.take i)).length + ((uL (rd_T90 l i).f0).length + (nlB (rd_T90 l i).f1).length) ≤ 100000000 := by
          have q1 := LL.out
          have q2 := losB_le l (i + 1)
          rw [losB_take l i hlt, ← hgi] at q2
          simp only [llB, loB, List.length_append] at q1 q2
          omega
        have hnb : (nlB (rd_T90 l i).f1).length ≤ 100000000 := by omega
        obtain ⟨wo, hwo⟩ : ∃ wo, wo = wr.alloc (.cells #[.int .u32 (rd_T90 l i).f0, .slice A1 (rd_T90 l i).f1.length c1] 90) := ⟨_, rfl⟩
        have hwb : Below wr.heap.size wr wo := by rw [hwo]; exact bel
        have HP := hid (show ∀ W, Below wo.heap.size wo W → Calls Tryz.prog 56 #[u4, .int .u64 (IntKind.u64.wrap (rd_T90 l i).f0)] W (PO w W u4 ((uL l.length ++ losB (l.take i)) ++ uL (rd_T90 l i).f0)) from fun W hW => by
          rw [wu, show (rd_T90 l i).f0 % 18446744073709551616 = (rd_T90 l i).f0 by omega]
          exact putU_own u4 _ _ w W (below_call (below_call HB.out hwb (by omega)) hW (by have := hwb.size; omega)) (own_below (own_below HO.out hwb) hW) hU0 (by omega) (by simp only [List.length_append]; omega))
        have HQ := hid (show ∀ W v, Below w.heap.size w W → Own W w.heap.size v ((uL l.length ++ losB (l.take i)) ++ uL (rd_T90 l i).f0) → Calls Tryz.prog 57 #[v, .slice A1 (rd_T90 l i).f1.length c1] W (PO w W v (((uL l.length ++ losB (l.take i)) ++ uL (rd_T90 l i).f0) ++ nlB (rd_T90 l i).f1)) from fun W v hW hO =>
          list_own v _ A1 c1 _ w W hW hO hC0 l1 hU2 (by simp only [List.length_append]; omega) hlen)
        clear hca hC0 g1 hU2 hsz2 hnb
        have HG := hid hgi
        clear hgi
        have HL4 := hid (show ∀ k, u4.ownBlock = some k → k < wr.heap.size from fun k hk => (HO.out.lt k hk).2)
        go_upto_region 7 with (fail)
        subst hwo
        go_region_held3 (fun W => W.cell? ⟨wr.heap.size, 0, none⟩ = some (.int .u32 (rd_T90 l i).f0) ∧ W.cell? ⟨wr.heap.size, 1, none⟩ = some (.slice A1 (rd_T90 l i).f1.length c1))
          (first
            | (go_keep; done) | exact keepK2 (by assumption) hk5 (not_mine1 HL4.out) (not_mine1 HL4.out) | exact keepK2 (by assumption) hk7 (not_mine2 HL4.out hn5 (by simp)) (not_mine2 HL4.out hn5 (by simp)))
          (first
            | (go_at_call 56; (with_reducible refine (HP.out _ ?hbl).mono ?_); (case hbl => first | exact Below.refl _ _ | exact below_drew (Below.refl _ _)); rintro e w5 ⟨v5, rfl, ho5, hb5, hk5, hn5⟩)
            | (go_at_call 57; (with_reducible refine (HQ.out _ _ hb5 ho5).mono ?_); rintro e w7 ⟨v7, rfl, ho7, hb7, hk7, hn7⟩))
        all_goals (go_wp2_with fail)
        all_goals
          refine ⟨⟨i + 1, by go_num, by omega, hid ?_, hid ?_, hid ?_, ?_, hid hb7⟩, by simp [intOf]; omega⟩
          · rw [losB_take l i hlt, ← HG.out]; simpa [loB, List.append_assoc] using ho7
          · intro k hk
            rcases hn7 k hk with q | q
            · rcases hn5 k q with q | q
              · exact HN.out k q
              · simp at q; omega
            · have := hk5.1; simp at this; omega
          · exact ((KN.out.below hwb).kept (hk5 : Kept (wr.alloc _) _ _) (fun h => Nat.lt_irrefl _ (HN.out _ h))).kept hk7 (fun h => by
              rcases hn5 _ h with q | q
              · exact Nat.lt_irrefl _ (HN.out _ q)
              · simp at q; omega)
          · have q1 := hk5.1
            have q2 := hk7.1
            simp at q1
            omega
      · obtain rfl : i = l.length := by omega
        have HO2 := hid (show Own wr w.heap.size u4 (llB l) by have := HO.out; rwa [List.take_length] at this)
        have c3 := KN.out.2.2.2.1
        have c4 := KN.out.2.2.2.2.1
        clear HO hi1 hlt
        have HPT := hid (show ∀ W, Below w.heap.size w W → Calls Tryz.prog 58 #[.slice none 0 0, .string m] W (PO w W (.slice none 0 0) (txt m)) from fun W hW => putText_own (.slice none 0 0) [] m w W hW (own_nil' _ _) SM (by simp))
        have HLI := hid (show ∀ W, Below w.heap.size w W → Calls Tryz.prog 57 #[.slice none 0 0, .slice A f.length c] W (PO w W (.slice none 0 0) (nlB f)) from fun W hW => list_own (.slice none 0 0) [] A c f w W hW (own_nil' _ _) XF.out XC UF.out (by have := LF.out; simp; omega) h1)
        go_upto_region 10 with (fail)
        obtain ⟨A4, cc4, rfl⟩ := own_slice HO2.out
        go_cut [8] (fun s8 wx => ∃ (g : Nat) (va vb : Value), s8 = .slice (some ⟨g, 0, none⟩) 3 3 ∧ Hid (AllAt w.heap.size g va vb (.slice A4 (llB l).length cc4) (txt m) (nlB f) (llB l) wx) ∧ Hid (BoxN w.heap.size b1 b2 b3 m (.slice A f.length c) (.slice B l.length d) wx) ∧ g < wx.heap.size ∧ w.heap.size < g ∧ Hid (Below w.heap.size w wx))
        case first =>
          have S0 : wr.cell? ⟨w.heap.size, 3, none⟩ = some (.string m) ∧ wr.cell? ⟨w.heap.size, 4, none⟩ = some (.slice A f.length c) ∧ Below w.heap.size w wr := ⟨c3, c4, HB.out⟩
          go_region_held3 (fun W => W.cell? ⟨w.heap.size, 3, none⟩ = some (.string m) ∧ W.cell? ⟨w.heap.size, 4, none⟩ = some (.slice A f.length c) ∧ Below w.heap.size w W)
            (first
              | exact S0 | exact ⟨c3, c4, below_drew HB.out⟩ | exact keep3a (by assumption) | exact keep3 (by assumption) hk5 (nil_not _) (nil_not _) hb5 | exact keep3 (by assumption) hk7 (nil_not _) (nil_not _) hb7)
            (first
              | (go_at_call 58; (with_reducible refine (HPT.out _ (‹_ ∧ _ ∧ Below _ _ _›).2.2).mono ?_); rintro e w5 ⟨v5, rfl, ho5, hb5, hk5, hn5⟩; obtain ⟨A5, c5, rfl⟩ := own_slice ho5)
              | (go_at_call 57; (with_reducible refine (HLI.out _ (‹_ ∧ _ ∧ Below _ _ _›).2.2).mono ?_); rintro e w7 ⟨v7, rfl, ho7, hb7, hk7, hn7⟩; obtain ⟨A7, c7, rfl⟩ := own_slice ho7))
          all_goals (go_wp2_with fail)
          all_goals (go_meet)
          have hO5 := own_kept ho5 hk7 (fun k _ => nil_not k)
          have hO4 := own_kept (own_kept HO2.out (hk5 : Kept wr _ _) (fun k _ => nil_not k)) hk7 (fun k _ => nil_not k)
          have hK := (KN.out.kept (hk5 : Kept wr _ _) (nil_not _)).kept hk7 (nil_not _)
          exact ⟨w7.heap.size, _, _, rfl, hid (AllAt.new hO5 ho7 hO4), hid (hK.below (Below.alloc (Below.refl _ _) (Nat.le_refl _) _)), by simp, by have := hk5.1; have := hk7.1; simp at *; omega, hid (below_alloc hb7 _)⟩
        case rest =>
          obtain ⟨g, va, vb, rfl, HA, HN2, hg1, hg2, HB2⟩ := hcut
          have k0 := HN2.out.1
          have k1 := HN2.out.2.1
          have k2 := HN2.out.2.2.1
          clear HN KN hz HB HO2 c3 c4 HPT HLI
          obtain ⟨p, hp⟩ : ∃ p, p = ptB b1 b2 b3 (txt m) (nlB f) (llB l) := ⟨_, rfl⟩
          obtain ⟨q, hq⟩ : ∃ q : Nat → Value, q = fun i => match i with | 0 => va | 1 => vb | _ => .slice A4 (llB l).length cc4 := ⟨_, rfl⟩
          have HP := hid hp
          have HQ := hid hq
          have HBL := hid (show ∀ j : Nat, ByteL (p j).2 from by rw [hp]; exact ptB_byte (txt_byte m) (nlB_byte f UF.out) (llB_byte l UL.out))
          have HLE := hid (show ∀ j : Nat, (p j).2.length ≤ 100000000 from by rw [hp]; exact ptB_len LM.out LF.out LL.out)
          have HOQ := hid (show ∀ j : Nat, j < 3 → wc.cell? ⟨g, j, none⟩ = some (q j) ∧ Own wc w.heap.size (q j) (p j).2 ∧ (∀ k, (q j).ownBlock = some k → k < g) from by
            intro j hj
            rw [hp, hq]
            match j, hj with
            | 0, _ => exact ⟨HA.out.c0, HA.out.o0, HA.out.l0⟩
            | 1, _ => exact ⟨HA.out.c1, HA.out.o1, HA.out.l1⟩
            | 2, _ => exact ⟨HA.out.c2, HA.out.o2, HA.out.l2⟩)
          have HCB := hid (show ∀ j : Nat, j < 3 → (wc.alloc (.cells #[.bool b1, .bool b2, .bool b3] 4)).cell? ⟨wc.heap.size, j, none⟩ = some (.bool (p j).1) from by
            intro j hj
            rw [hp]
            match j, hj with
            | 0, _ => simp [World.cell?_alloc_new, ptB]
            | 1, _ => simp [World.cell?_alloc_new, ptB]
            | 2, _ => simp [World.cell?_alloc_new, ptB])
          clear hp hq
          obtain ⟨i0, hi0, hz0, hz1, hz2⟩ := info_parts PNamesInfo5
          go_wp2
          go_loopw [7, 51] (fun v7 v51 wr => ∃ i : Nat, v51 = .int .i64 i ∧ i ≤ 3 ∧ Hid (Own wr w.heap.size v7 (outB p i)) ∧ Hid (∀ k, v7.ownBlock = some k → wc.heap.size < k) ∧ Hid (Kept (wc.alloc (.cells #[.bool b1, .bool b2, .bool b3] 4)) wr (fun _ => False)) ∧ wc.heap.size < wr.heap.size ∧ Hid (Below w.heap.size w wr)) (fun _ v51 _ => 3 - (intOf v51).toNat)
          case atStart => exact ⟨0, by go_num, by omega, hid (own_nil' _ _), hid (fun k h => by simp [Value.ownBlock] at h), hid (Kept.refl _ _), by simp, hid (below_alloc HB2.out _)⟩
          case round =>
            obtain ⟨i, rfl, hi1, HO, HN, HK, hz, HB⟩ := hrel
            by_cases hlt : i < 3
            · have cb := cell_kept (HCB.out i hlt) HK.out (fun h => h)
              have hB0 : Below wc.heap.size wc (wc.alloc (.cells #[.bool b1, .bool b2, .bool b3] 4)) := below_alloc (Below.refl _ _) _
              have hq0 := HOQ.out i hlt
              have hqc := cell_kept (pw_cell_below hB0 hq0.1) HK.out (fun h => h)
              have hqo := own_kept (own_below hq0.2.1 hB0) HK.out (fun _ _ h => h)
              have HQL := hid hq0.2.2
              have HNG := hid (show ∀ k, k ≤ g → ¬ Mine u7 k from fun k hk h => by have := HN.out k h; omega)
              rcases hb : (p i).1 with _ | _
              · have HBB := hid hb
                rw [hb] at cb
                clear hb hqc hqo hq0 hB0
                go_wp2
                go_roundw
                case rel => exact ⟨i + 1, by go_num, by omega, hid (by simp only [outB]; rw [HBB.out]; simpa using HO.out), HN, HK, hz, HB⟩
                case measure => simp [intOf]; omega
              · have HBB := hid hb
                rw [hb] at cb
                have S0 : wr.cell? ⟨g, i, none⟩ = some (q i) ∧ (convert 72 9 (q i)).run Tryz.prog wr = .ok (.string (strOfNums (p i).2)) wr ∧ Own wr w.heap.size (q i) (p i).2 ∧ Below w.heap.size w wr := ⟨hqc, own_str hqo, hqo, HB.out⟩
                have HLN := hid (show (outB p i).length ≤ 400000000 from Nat.le_trans (outB_len HLE.out (by omega)) (by omega))
                have HPT := hid (show ∀ W v, Below w.heap.size w W → Own W w.heap.size v (outB p i ++ [(i : Int)]) → Calls Tryz.prog 58 #[v, .string (strOfNums (p i).2)] W (PO w W v (outB p i ++ sec i (p i).2)) from fun W v hW hO => by
                  have := putText_own v _ (strOfNums (p i).2) w W hW hO (by rw [strOfNums_size]; have := HLE.out i; omega) (by have := HLN.out; simp; omega)
                  rwa [txt_str (HBL.out i), List.append_assoc] at this)
                have hw8 : IntKind.u8.wrap (i : Int) = i := by rw [IntKind.wrap]; simp [IntKind.bits, IntKind.signed]; omega
                clear hb hqc hqo hq0 hB0
                go_upto_region 15 with (fail)
                refine wp_region_noPanic ?_
                refine wp_region_held_drew (S := (fun W => W.cell? ⟨g, i, none⟩ = some (q i) ∧ (convert 72 9 (q i)).run Tryz.prog W = .ok (.string (strOfNums (p i).2)) W ∧ Own W w.heap.size (q i) (p i).2 ∧ Below w.heap.size w W)) (by kernel_rfl) ?hS (fun hHeld => ?go)
                case hS => first | exact keepQ S0 HQL.out (Kept.refl wr (fun _ => False)) (fun _ _ h => h) (below_drew HB.out) | exact keepQ (by assumption) HQL.out (Kept.refl _ (fun _ => False)) (fun _ _ h => h) (by first | exact below_drew HB.out | exact HB.out) | exact keepQ (by assumption) HQL.out (Kept.alloc (Kept.refl wr.drew (fun _ => False)) _ : Kept wr.drew (wr.drew.alloc _) _) (fun _ _ h => h) (below_drew (below_alloc HB.out _)) | exact keepQ (by assumption) HQL.out hka (fun k hk => HNG.out k hk) hba | exact keepQ (by assumption) HQL.out hk5 (fun k hk => HNH.out k hk) hb5
                refine wpAnyH_take (i := 0) (oi := { dst := some 57, op := Go.Op.move (Go.Operand.tmp 7), type := 72, pos := "names.go:106", after := #[], guard := none }) (v := ?_) rfl (by kernel_rfl) (by kernel_rfl) (by kernel_rfl) (fun _ _ _ h => h) (Or.inl ⟨by rfl, ?hy0⟩) (by assumption) ?rest0
                case hy0 => (intro w hSw; (try dsimp only at hSw); go_simp; try with_reducible rfl)
                simp only [Act.put, List.setIfInBounds_toArray, List.set_cons_zero, List.set_cons_succ]
                refine wpAnyH_take (i := 1) (oi := { dst := some 58, op := Go.Op.move (Go.Operand.tmp 9), type := 3, pos := "names.go:106", after := #[], guard := none }) (v := ?_) rfl (by kernel_rfl) (by kernel_rfl) (by kernel_rfl) (fun _ _ _ h => h) (Or.inl ⟨by rfl, ?hy1⟩) (by assumption) ?rest1
                case hy1 => (intro w hSw; (try dsimp only at hSw); go_simp; try with_reducible rfl)
                simp only [Act.put, List.setIfInBounds_toArray, List.set_cons_zero, List.set_cons_succ]
                refine wpAnyH_take (i := 2) (oi := { dst := some 59, op := Go.Op.convert 3 5 (Go.Operand.tmp 58), type := 5, pos := "names.go:106", after := #[{ on := 1, ground := Go.Ground.data }], guard := none }) (v := ?_) rfl (by kernel_rfl) (by kernel_rfl) (by kernel_rfl) (fun _ _ _ h => h) (Or.inl ⟨by rfl, ?hy2⟩) (by assumption) ?rest2
                case hy2 => (intro w hSw; (try dsimp only at hSw); go_simp; try with_reducible rfl)
                simp only [Act.put, List.setIfInBounds_toArray, List.set_cons_zero, List.set_cons_succ]
                refine wpAnyH_take (i := 5) (oi := { dst := some 62, op := Go.Op.move (Go.Operand.tmp 8), type := 193, pos := "names.go:106", after := #[], guard := none }) (v := ?_) rfl (by kernel_rfl) (by kernel_rfl) (by kernel_rfl) (fun _ _ _ h => h) (Or.inl ⟨by rfl, ?hy5⟩) (by assumption) ?rest5
                case hy5 => (intro w hSw; (try dsimp only at hSw); go_simp; try with_reducible rfl)
                simp only [Act.put, List.setIfInBounds_toArray, List.set_cons_zero, List.set_cons_succ]
                refine wpAnyH_take (i := 6) (oi := { dst := some 63, op := Go.Op.move (Go.Operand.tmp 9), type := 3, pos := "names.go:106", after := #[], guard := none }) (v := ?_) rfl (by kernel_rfl) (by kernel_rfl) (by kernel_rfl) (fun _ _ _ h => h) (Or.inl ⟨by rfl, ?hy6⟩) (by assumption) ?rest6
                case hy6 => (intro w hSw; (try dsimp only at hSw); go_simp; try with_reducible rfl)
                simp only [Act.put, List.setIfInBounds_toArray, List.set_cons_zero, List.set_cons_succ]
                refine wpAnyH_take (i := 7) (oi := { dst := some 64, op := Go.Op.indexAddr 193 (Go.Operand.tmp 62) (Go.Operand.tmp 63), type := 0, pos := "names.go:106", after := #[{ on := 5, ground := Go.Ground.data }, { on := 6, ground := Go.Ground.data }], guard := none }) (v := ?_) rfl (by kernel_rfl) (by kernel_rfl) (by kernel_rfl) (fun _ _ _ h => h) (Or.inl ⟨by rfl, ?hy7⟩) (by assumption) ?rest7
                case hy7 => (intro w hSw; (try dsimp only at hSw); go_simp; try with_reducible rfl)
                simp only [Act.put, List.setIfInBounds_toArray, List.set_cons_zero, List.set_cons_succ]
                refine wpAnyH_take (i := 8) (oi := { dst := some 65, op := Go.Op.load 72 (Go.Operand.tmp 64), type := 72, pos := "names.go:106", after := #[{ on := 7, ground := Go.Ground.data }], guard := none }) (v := ?_) rfl (by kernel_rfl) (by kernel_rfl) (by kernel_rfl) (fun _ _ _ h => h) (Or.inl ⟨by rfl, ?hy8⟩) (by assumption) ?rest8
                case hy8 => (intro w hSw; (try dsimp only at hSw); go_simp; try with_reducible rfl)
                simp only [Act.put, List.setIfInBounds_toArray, List.set_cons_zero, List.set_cons_succ]
                refine wpAnyH_take (i := 9) (oi := { dst := some 66, op := Go.Op.convert 72 9 (Go.Operand.tmp 65), type := 9, pos := "names.go:106", after := #[{ on := 8, ground := Go.Ground.data }], guard := none }) (v := ?_) rfl (by kernel_rfl) (by kernel_rfl) (by kernel_rfl) (fun _ _ _ h => h) (Or.inl ⟨by rfl, ?hy9⟩) (by assumption) ?rest9
                case hy9 => (intro w hSw; (try dsimp only at hSw); go_simp; try with_reducible rfl)
                simp only [Act.put, List.setIfInBounds_toArray, List.set_cons_zero, List.set_cons_succ]
                refine wpAnyH_ready (rs := [3]) (by kernel_rfl) (by simp) ?_
                refine AllReadyH.cons (o := { dst := some 60, op := Go.Op.buildSlice 72 1 #[(0, Go.Operand.tmp 59)], type := 72, pos := "names.go:106", after := #[{ on := 2, ground := Go.Ground.data }], guard := none }) rfl (fun K hK => ?_) AllReadyH.nil
                go_simp
                refine hK.out _ _ ?_ (fun hHeld => ?_)
                · (try dsimp only); first | exact keepQ S0 HQL.out (Kept.refl wr (fun _ => False)) (fun _ _ h => h) (below_drew HB.out) | exact keepQ (by assumption) HQL.out (Kept.refl _ (fun _ => False)) (fun _ _ h => h) (by first | exact below_drew HB.out | exact HB.out) | exact keepQ (by assumption) HQL.out (Kept.alloc (Kept.refl wr.drew (fun _ => False)) _ : Kept wr.drew (wr.drew.alloc _) _) (fun _ _ h => h) (below_drew (below_alloc HB.out _)) | exact keepQ (by assumption) HQL.out hka (fun k hk => HNG.out k hk) hba | exact keepQ (by assumption) HQL.out hk5 (fun k hk => HNH.out k hk) hb5
                clear hK K
                try simp only [Act.put, List.setIfInBounds_toArray, List.set_cons_zero, List.set_cons_succ]
                refine wpAnyH_ready (rs := [4]) (by kernel_rfl) (by simp) ?_
                refine AllReadyH.cons (o := { dst := some 61, op := Go.Op.call { callee := Go.Callee.builtin Go.Builtin.append, args := #[Go.Operand.tmp 57, Go.Operand.tmp 60], argTypes := #[72, 72] }, type := 72, pos := "names.go:106", after := #[{ on := 0, ground := Go.Ground.data }, { on := 3, ground := Go.Ground.data }], guard := none }) rfl (fun K hK => ?_) AllReadyH.nil
                refine step_append_lies _ rfl (.tmp 57) (.tmp 60) 72 (by rfl) w.heap.size 5 i0 (.int .u8 0) 1 1 Tryz.underlying72 hi0 hz0 hz1 hz2 rfl (by decide) u7 (outB p i).length (bv (outB p i)) (by rfl) (own_below (own_below HO.out (below_alloc (Below.refl _ _) _)) (below_drew (Below.refl _ _))) ⟨wr.heap.size, 0, none⟩ 1 1 [.int .u8 i] (by rfl) rfl (fun j u hj => one_new wr (.int .u8 i) 5 j u hj) (by intro u hu; simp at hu; subst hu; rfl) (by decide) (by have := HLN.out; unfold maxLen; omega) (by have := HLN.out; omega) (by simp; omega) _ rfl ?_; intro ga capa wa howna hgrowa hata hlta; obtain ⟨hoa, hba, hka, hna⟩ := app_one (o := .cells #[.int .u8 i] 5) HB.out HO.out howna rfl hgrowa hata; have HNH := hid (nm_new HNG.out hna (by omega))
                refine hK.out _ _ ?_ (fun hHeld => ?_)
                · (try dsimp only); first | exact keepQ S0 HQL.out (Kept.refl wr (fun _ => False)) (fun _ _ h => h) (below_drew HB.out) | exact keepQ (by assumption) HQL.out (Kept.refl _ (fun _ => False)) (fun _ _ h => h) (by first | exact below_drew HB.out | exact HB.out) | exact keepQ (by assumption) HQL.out (Kept.alloc (Kept.refl wr.drew (fun _ => False)) _ : Kept wr.drew (wr.drew.alloc _) _) (fun _ _ h => h) (below_drew (below_alloc HB.out _)) | exact keepQ (by assumption) HQL.out hka (fun k hk => HNG.out k hk) hba | exact keepQ (by assumption) HQL.out hk5 (fun k hk => HNH.out k hk) hb5
                clear hK K
                try simp only [Act.put, List.setIfInBounds_toArray, List.set_cons_zero, List.set_cons_succ]
                refine wpAnyH_ready (rs := [10]) (by kernel_rfl) (by simp) ?_
                refine AllReadyH.cons (o := { dst := some 67, op := Go.Op.call { callee := Go.Callee.value (Go.Operand.func 58), args := #[Go.Operand.tmp 61, Go.Operand.tmp 66], argTypes := #[72, 9] }, type := 72, pos := "names.go:106", after := #[{ on := 4, ground := Go.Ground.data }, { on := 9, ground := Go.Ground.data }, { on := 4, ground := Go.Ground.chain }], guard := none }) rfl (fun K hK => ?_) AllReadyH.nil
                go_simp
                go_at_call 58; (with_reducible refine (HPT.out _ _ hba hoa).mono ?_); rintro e w5 ⟨v5, rfl, ho5, hb5, hk5, hn5⟩
                refine hK.out _ _ ?_ (fun hHeld => ?_)
                · (try dsimp only); first | exact keepQ S0 HQL.out (Kept.refl wr (fun _ => False)) (fun _ _ h => h) (below_drew HB.out) | exact keepQ (by assumption) HQL.out (Kept.refl _ (fun _ => False)) (fun _ _ h => h) (by first | exact below_drew HB.out | exact HB.out) | exact keepQ (by assumption) HQL.out (Kept.alloc (Kept.refl wr.drew (fun _ => False)) _ : Kept wr.drew (wr.drew.alloc _) _) (fun _ _ h => h) (below_drew (below_alloc HB.out _)) | exact keepQ (by assumption) HQL.out hka (fun k hk => HNG.out k hk) hba | exact keepQ (by assumption) HQL.out hk5 (fun k hk => HNH.out k hk) hb5
                clear hK K
                try simp only [Act.put, List.setIfInBounds_toArray, List.set_cons_zero, List.set_cons_succ]
                refine wpAnyH_take (i := 11) (oi := { dst := some 7, op := Go.Op.assign (Go.Operand.tmp 67), type := 72, pos := "names.go:106", after := #[{ on := 10, ground := Go.Ground.data }, { on := 10, ground := Go.Ground.chain }, { on := 0, ground := Go.Ground.phase }, { on := 1, ground := Go.Ground.phase }, { on := 2, ground := Go.Ground.phase }, { on := 3, ground := Go.Ground.phase }, { on := 4, ground := Go.Ground.phase }, { on := 5, ground := Go.Ground.phase }, { on := 6, ground := Go.Ground.phase }, { on := 7, ground := Go.Ground.phase }, { on := 8, ground := Go.Ground.phase }, { on := 9, ground := Go.Ground.phase }, { on := 10, ground := Go.Ground.phase }], guard := none }) (v := ?_) rfl (by kernel_rfl) (by kernel_rfl) (by kernel_rfl) (fun _ _ _ h => h) (Or.inl ⟨by rfl, ?hy11⟩) (by assumption) ?rest11
                case hy11 => (intro w hSw; (try dsimp only at hSw); go_simp; try with_reducible rfl)
                simp only [Act.put, List.setIfInBounds_toArray, List.set_cons_zero, List.set_cons_succ]
                refine wpAnyH_done (by kernel_rfl) ?_ _
                refine NoPanic.normal ?_
                go_wp2_with fail
                have hkx : ∀ k, (Value.slice (some ⟨ga, 0, none⟩) ((outB p i).length + 1) capa).ownBlock = some k → wc.heap.size < k := fun k hk => by
                  rcases hna k hk with r | r
                  · exact HN.out k r
                  · omega
                have hkw := hka.1
                simp [World.drew] at hkw
                have hk6 := hk5.1
                refine ⟨⟨i + 1, by go_num, by omega, hid (by simp only [outB]; rw [HBB.out]; simpa using ho5), hid (fun k hk => ?_), hid ?_, by omega, hid hb5⟩, by simp [intOf]; omega⟩
                · rcases hn5 k hk with r | r
                  · exact hkx k r
                  · omega
                · refine ((Kept.alloc HK.out (.cells #[.int .u8 i] 5)).then_ (hka : Kept (wr.alloc _) _ _) (fun k hk => ?_)).then_ hk5 (fun k hk => ?_)
                  · have := HN.out k hk; right; simp; omega
                  · have := hkx k hk; right; simp; omega
            · obtain rfl : i = 3 := by omega
              have hout : outB p 3 = putB ⟨b1, b2, b3, m, f, l⟩ := by rw [HP.out]; exact outB_put ⟨b1, b2, b3, m, f, l⟩
              have hcv := own_str HO.out
              rw [hout] at hcv
              clear hout
              go_wp2
              refine bodyPost_ret (v := .tuple #[.string (strOfNums (putB ⟨b1, b2, b3, m, f, l⟩)), .int .i64 0]) ?_ rfl ⟨rfl, HB.out⟩
              simp [results, Tryz.results36, go_sem]
end Go.Proofs.YtiohiiekaofkbaaGreatDoor
/- What the chapter's example says: awake. -/
namespace Go.Proofs.YtiohiiekaofkbaaGreatDoor
set_option linter.unusedVariables false
set_option linter.unusedSimpArgs false
open Go.RowKit Go.Proofs.YtiohiiekaofkbaaGreatDoor.PNamesReads Go.Proofs.YtiohiiekaofkbaaGreatDoorW.PrintWords
def exN : Ns := ⟨true, false, false, ⟨#[109]⟩, [], []⟩
theorem ex_right : nrightB exN = true := by decide
theorem ex_put : strOfNums (putB exN) = ⟨#[0, 2, 1, 109]⟩ := by
  have h1 : putB exN = [0, 2, 1, 109] := by
    simp only [putB, exN, sec, txt, if_true, Bool.false_eq_true, if_false, List.append_nil]
    have e : bytesOf ⟨#[109]⟩ = [109] := rfl
    have z : (⟨#[109]⟩ : ByteArray).size = 1 := rfl
    have u1 : uL ((1 : Nat) : Int) = [1] := uL_small (by omega)
    have u2 : uL ((2 : Nat) : Int) = [2] := uL_small (by omega)
    rw [e, z, u1]
    show (0 : Int) :: (uL ((2 : Nat) : Int) ++ [1, 109]) = _
    rw [u2]
    rfl
  rw [h1]; rfl
theorem ex_walk (w : World) : Calls Tryz.prog 36 #[.agg #[.bool true, .bool false, .bool false, .string ⟨#[109]⟩, .slice none 0 0, .slice none 0 0]] w fun e w' => e = .returned (.tuple #[.string ⟨#[0, 2, 1, 109]⟩, .int .i64 0]) ∧ Below w.heap.size w w' := by
  have h := put_walk exN none 0 none 0 w ⟨Kd.C_nil _ _, Nat.le_refl _, Kd.C_nil _ _, Nat.le_refl _⟩ ⟨by decide, by decide, by decide, fun i hi => absurd hi (by simp [exN]), fun i hi => absurd hi (by simp [exN])⟩
    ⟨fun x hx => by simp [exN] at hx, fun x hx => by simp [exN] at hx, by have := txt_len exN.md (by decide); have : exN.md.size = 1 := rfl; omega, by simp [exN, nlB, nmsB]; have := uL_max 0 (by omega) (by omega); omega, by simp [exN, llB, losB]; have := uL_max 0 (by omega) (by omega); omega⟩
  rw [ex_right, ex_put] at h
  exact h
set_option maxRecDepth 100000 in
set_option maxHeartbeats 1000000 in
theorem awake14_walk (w : World) : Calls Tryz.prog 11 #[] w fun e w' => e = .returned (.bool true) ∧ Below w.heap.size w w' := by
  go_enter Tryz.func11, Tryz.ntmps11
  go_wp2_with (first | (go_at_call 36; refine (ex_walk _).mono ?_; rintro e w' ⟨rfl, hb1⟩))
  go_ret
  exact ⟨rfl, hb1⟩
end Go.Proofs.YtiohiiekaofkbaaGreatDoor
/- What is read of bytes, by one answer: names.Read, names.Of, the document's Read. -/
namespace Go.Proofs.YtiohiiekaofkbaaGreatDoor
set_option linter.unusedVariables false
set_option linter.unusedSimpArgs false
open Go.RowKit Go.Proofs.YtiohiiekaofkbaaGreatDoor.PNamesReads Go.Proofs.YtiohiiekaofkbaaGreatDoorW.PrintWords
def Ns.w (x : Ns) : NmV := ⟨x.hm, x.hf, x.hl, x.md, x.fs, x.ls⟩
def NmV.x (V : NmV) : Ns := ⟨V.hm, V.hf, V.hl, V.md, V.fs, V.ls⟩
def zeroNs : Ns := ⟨false, false, false, ⟨#[]⟩, [], []⟩
theorem encS_len {α : Type} {P : List Int → α → Prop} (hP : ∀ B x, P B x → 1 ≤ B.length) : ∀ (xs : List α) (B : List Int), EncS P B xs → xs.length ≤ B.length ∧ ∀ x ∈ xs, ∃ C, P C x ∧ C.length ≤ B.length := by
  intro xs
  induction xs with
  | nil => intro B _; exact ⟨Nat.zero_le _, fun x hx => (by cases hx)⟩
  | cons x xs ih =>
    intro B h
    obtain ⟨B1, B2, rfl, h1, h2⟩ := h
    obtain ⟨a, b⟩ := ih _ h2
    have := hP _ _ h1
    rw [List.length_append, List.length_cons]
    refine ⟨by omega, fun y hy => ?_⟩
    rcases List.mem_cons.1 hy with rfl | hy
    · exact ⟨B1, h1, by omega⟩
    · obtain ⟨C, hC, hl⟩ := b y hy
      exact ⟨C, hC, by omega⟩
theorem encNl_len {B : List Int} {xs : List S149} (h : EncNl B xs) : xs.length ≤ B.length := by
  obtain ⟨N, C, rfl, hN, hS⟩ := h
  have := (encS_len (fun B x hx => by obtain ⟨N, T, rfl, hN, -⟩ := hx; have := hN.pos; rw [List.length_append]; omega) xs C hS).1
  rw [List.length_append]; omega
theorem encLl_len {B : List Int} {xs : List S90} (h : EncLl B xs) : xs.length ≤ B.length ∧ ∀ x ∈ xs, x.f1.length ≤ B.length := by
  obtain ⟨N, C, rfl, hN, hS⟩ := h
  obtain ⟨a, b⟩ := encS_len (fun B x hx => by obtain ⟨N, T, rfl, hN, -⟩ := hx; have := hN.pos; rw [List.length_append]; omega) xs C hS
  rw [List.length_append]
  refine ⟨by omega, fun x hx => ?_⟩
  obtain ⟨D, ⟨N', T, rfl, -, hT⟩, hl⟩ := b x hx
  have := encNl_len hT
  rw [List.length_append] at hl
  omega
theorem namesE_some3 {l : List Int} {V : NmV} (hE : NamesE l V) (hg : GoodV V) (hl : l.length ≤ 2000) : V.x.some3 := by
  obtain ⟨B0, B1, B2, rfl, S0, S1, S2⟩ := hE
  simp only [List.length_append] at hl
  have h1 : V.fs.length ≤ 2000 := by
    cases hf : V.hf
    · have : V.fs = [] := by rcases hg.f with h | h; rw [hf] at h; cases h; exact h
      rw [this]; exact Nat.zero_le _
    · rw [hf] at S1
      obtain ⟨N, C, rfl, hN, hC⟩ := (show ∃ N C, B1 = (1 : Int) :: (N ++ C) ∧ Enc N C.length ∧ EncNl C V.fs from by simpa [Sec] using S1)
      have := encNl_len hC
      simp only [List.length_cons, List.length_append] at hl
      omega
  have h2 : V.ls.length ≤ 2000 ∧ ∀ x ∈ V.ls, x.f1.length ≤ 2000 := by
    cases hf : V.hl
    · have : V.ls = [] := by rcases hg.l with h | h; rw [hf] at h; cases h; exact h
      rw [this]; exact ⟨Nat.zero_le _, fun x hx => (by cases hx)⟩
    · rw [hf] at S2
      obtain ⟨N, C, rfl, hN, hC⟩ := (show ∃ N C, B2 = (2 : Int) :: (N ++ C) ∧ Enc N C.length ∧ EncLl C V.ls from by simpa [Sec] using S2)
      obtain ⟨a, b⟩ := encLl_len hC
      simp only [List.length_cons, List.length_append] at hl
      exact ⟨by omega, fun x hx => by have := b x hx; omega⟩
  refine ⟨by show V.fs.length ≤ _; omega, by show V.ls.length ≤ _; omega, fun i hi => ?_⟩
  have hi : i < V.ls.length := hi
  show (rd_T90 V.ls i).f1.length ≤ _
  rw [rd_LocalG V.ls i hi]
  have := h2.2 _ (List.getElem_mem hi)
  omega
theorem zero_some3 : zeroNs.some3 := ⟨Nat.zero_le _, Nat.zero_le _, fun i hi => absurd hi (Nat.not_lt_zero i)⟩
theorem back_some3 {x : Ns} (h : x.some3) : x.back.some3 := by
  refine ⟨by show (x.fs.map frN).length ≤ _; rw [List.length_map]; exact h.1, by show (x.ls.map frL).length ≤ _; rw [List.length_map]; exact h.2.1, fun i hi => ?_⟩
  have hi : i < (x.ls.map frL).length := hi
  have hi' : i < x.ls.length := by rwa [List.length_map] at hi
  show (rd_T86 (x.ls.map frL) i).f1.length ≤ _
  rw [rd_rLocalG _ i hi, List.getElem_map]
  have := h.2.2 i hi'
  rw [rd_LocalG _ i hi'] at this
  show (x.ls[i].f1.map frN).length ≤ _
  rw [List.length_map]; exact this
structure Told (l : List Int) (x : Ns) (b : Bool) : Prop where
  yes : b = true → dRead l = some x.w
  no : b = false → dRead l = none ∧ x = zeroNs
  few : x.some3
theorem dNs_ext {x : dNs} {y : Ns} (h : x.v = y.w) : x = y.back := by
  obtain ⟨a, b, c, d, e, f⟩ := x
  obtain ⟨a', b', c', d', e', f'⟩ := y
  simp only [dNs.v, Ns.w, NmV.mk.injEq] at h
  obtain ⟨rfl, rfl, rfl, rfl, rfl, rfl⟩ := h
  show _ = (⟨_, _, _, _, (e.map toN).map frN, (f.map toL).map frL⟩ : dNs)
  rw [frN_toN, frL_toL]
def Ns.fr (x : Ns) (A : Option Addr) (c : Nat) (B : Option Addr) (d : Nat) (n : Nat) (w : World) : Prop := k149.R 149 w n (fun k => n ≤ k) (.slice A x.fs.length c) x.fs ∧ k90.R 90 w n (fun k => n ≤ k) (.slice B x.ls.length d) x.ls
def dNs.fr (x : dNs) (A : Option Addr) (c : Nat) (B : Option Addr) (d : Nat) (n : Nat) (w : World) : Prop := k182.R 182 w n (fun k => n ≤ k) (.slice A x.fs.length c) x.fs ∧ k86.R 86 w n (fun k => n ≤ k) (.slice B x.ls.length d) x.ls
theorem Ns.fr.at {x : Ns} {A : Option Addr} {c : Nat} {B : Option Addr} {d n : Nat} {w : World} (h : x.fr A c B d n w) : x.at A c B d w := by
  obtain ⟨A', c', he, hl, hq⟩ := Kd.R_reads h.1
  obtain ⟨B', d', hf, gl, gq⟩ := Kd.R_reads h.2
  cases he
  cases hf
  exact ⟨hq, hl, gq, gl⟩
theorem dNs.fr.at {x : dNs} {A : Option Addr} {c : Nat} {B : Option Addr} {d n : Nat} {w : World} (h : x.fr A c B d n w) : x.at A c B d w := by
  obtain ⟨A', c', he, hl, hq⟩ := Kd.R_reads h.1
  obtain ⟨B', d', hf, gl, gq⟩ := Kd.R_reads h.2
  cases he
  cases hf
  exact ⟨hq, hl, gq, gl⟩
theorem Ns.fr.step {x : Ns} {A : Option Addr} {c : Nat} {B : Option Addr} {d n : Nat} {w W : World} (h : x.fr A c B d n w) (hm : ∀ k, n ≤ k → k < w.heap.size → W.heap[k]? = w.heap[k]?) : x.fr A c B d n W := ⟨Kd.R_step h.1 hm, Kd.R_step h.2 hm⟩
theorem dNs.fr.step {x : dNs} {A : Option Addr} {c : Nat} {B : Option Addr} {d n : Nat} {w W : World} (h : x.fr A c B d n w) (hm : ∀ k, n ≤ k → k < w.heap.size → W.heap[k]? = w.heap[k]?) : x.fr A c B d n W := ⟨Kd.R_step h.1 hm, Kd.R_step h.2 hm⟩
theorem Ns.fr.nil (n : Nat) (w : World) : zeroNs.fr none 0 none 0 n w := ⟨Kd.R_nil _ _ _ _ _, Kd.R_nil _ _ _ _ _⟩
theorem dNs.fr.nil (n : Nat) (w : World) : zeroNs.back.fr none 0 none 0 n w := ⟨Kd.R_nil _ _ _ _ _, Kd.R_nil _ _ _ _ _⟩
theorem nread2 (s : ByteArray) (W : World) (hG : Glob W) (hM : GlobM W) (hs : s.size ≤ 2000) :
    Calls Tryz.prog 4 #[.string s] W (fun e w' => ∃ (x : Ns) (A : Option Addr) (c : Nat) (B : Option Addr) (d : Nat) (b : Bool), e = .returned (.tuple #[.agg #[.bool x.hm, .bool x.hf, .bool x.hl, .string x.md, .slice A x.fs.length c, .slice B x.ls.length d], .bool b]) ∧ x.at A c B d w' ∧ Told (ns s) x b ∧ Below W.heap.size W w') := by
  obtain ⟨h1, h2⟩ := read_alike s (by omega)
  have hl : (ns s).length ≤ 2000 := by rw [ns_length]; exact hs
  refine (read_walk s W hG hM (by omega)).mono ?_
  rintro e w' ⟨hb, hp⟩
  rcases hr : readM (ns s) with er | ⟨V, p⟩
  · rw [hr] at hp
    cases hp
    exact ⟨zeroNs, none, 0, none, 0, false, rfl, ⟨Kd.C_nil _ _, Nat.le_refl _, Kd.C_nil _ _, Nat.le_refl _⟩, ⟨fun h => (by cases h), fun _ => ⟨h2 er hr, rfl⟩, zero_some3⟩, hb⟩
  · rw [hr] at hp
    obtain ⟨v4, v5, rfl, r4, r5⟩ := hp
    obtain ⟨A, c, rfl, l4, q4⟩ := Kd.R_reads r4
    obtain ⟨B, d, rfl, l5, q5⟩ := Kd.R_reads r5
    obtain ⟨hE, hg⟩ := readM_put (ns_u8 s) (by omega) hr
    exact ⟨V.x, A, c, B, d, true, rfl, ⟨q4, l4, q5, l5⟩, ⟨fun _ => h1 V p hr, fun h => (by cases h), namesE_some3 hE hg hl⟩, hb⟩
theorem dread2 (s : ByteArray) (W : World) (hs : s.size ≤ 2000) {x : Ns} {b : Bool} (hT : Told (ns s) x b) :
    Calls Tryz.prog 5 #[.string s] W (fun e w' => ∃ (A : Option Addr) (c : Nat) (B : Option Addr) (d : Nat), e = .returned (.tuple #[.agg #[.bool x.back.hm, .bool x.back.hf, .bool x.back.hl, .string x.back.md, .slice A x.back.fs.length c, .slice B x.back.ls.length d], .bool b]) ∧ x.back.fr A c B d W.heap.size w' ∧ Below W.heap.size W w') := by
  refine (dread_walk s W (by omega)).mono ?_
  rintro e w' ⟨hb, hp⟩
  cases b with
  | true =>
    rw [hT.yes rfl] at hp
    obtain ⟨y, v4, v5, hy, rfl, r4, r5⟩ := hp
    obtain rfl := dNs_ext hy
    obtain ⟨A, c, rfl, l4, q4⟩ := Kd.R_reads r4
    obtain ⟨B, d, rfl, l5, q5⟩ := Kd.R_reads r5
    exact ⟨A, c, B, d, rfl, ⟨r4, r5⟩, hb⟩
  | false =>
    obtain ⟨h1, rfl⟩ := hT.no rfl
    rw [h1] at hp
    cases hp
    exact ⟨none, 0, none, 0, rfl, dNs.fr.nil _ _, hb⟩
def ToldOf (r : Option S91) (x : Ns) (b : Bool) : Prop := match r with
  | some y => Told (ns y.f2) x b
  | none => b = false ∧ x = zeroNs
theorem of2 (A : Option Addr) (c : Nat) (fa : Option Addr) (fc : Nat) (l : List S91) (w : World) (hC : k91.C w A l.length l) (hc : l.length ≤ c) (hl : l.length ≤ 20) (hG : Glob w) (hM : GlobM w) (hb : ∀ x ∈ l, x.f2.size ≤ 2000) :
    Calls Tryz.prog 8 #[.agg #[.slice none 0 0, .slice none 0 0, .slice fa 0 fc, .slice none 0 0, .slice none 0 0, .slice none 0 0, .slice none 0 0, .bool false, .int .u32 0, .slice none 0 0, .bool false, .slice none 0 0, .slice none 0 0, .slice A l.length c]] w (fun e w' => ∃ (x : Ns) (A : Option Addr) (c : Nat) (B : Option Addr) (d : Nat) (b : Bool), e = .returned (.tuple #[.agg #[.bool x.hm, .bool x.hf, .bool x.hl, .string x.md, .slice A x.fs.length c, .slice B x.ls.length d], .bool b]) ∧ x.fr A c B d w.heap.size w' ∧ ToldOf (firstC l) x b ∧ Below w.heap.size w w') := by
  refine (of_walk A c fa fc l w hC hc hl hG hM (fun x hx => by have := hb x hx; omega)).mono ?_
  rintro e w' ⟨hbw, hp⟩
  rcases hf : firstC l with _ | y
  · rw [hf] at hp
    cases hp
    exact ⟨zeroNs, none, 0, none, 0, false, rfl, Ns.fr.nil _ _, ⟨rfl, rfl⟩, hbw⟩
  · rw [hf] at hp
    have hy : y ∈ l := List.mem_of_find?_eq_some hf
    have hs := hb y hy
    have hp : PostRead w (readM (ns y.f2)) e w' := hp
    obtain ⟨h1, h2⟩ := read_alike y.f2 (by omega)
    rcases hr : readM (ns y.f2) with er | ⟨V, p⟩
    · rw [hr] at hp
      cases hp
      exact ⟨zeroNs, none, 0, none, 0, false, rfl, Ns.fr.nil _ _, ⟨fun h => (by cases h), fun _ => ⟨h2 er hr, rfl⟩, zero_some3⟩, hbw⟩
    · rw [hr] at hp
      obtain ⟨v4, v5, rfl, r4, r5⟩ := hp
      obtain ⟨A, c, rfl, l4, q4⟩ := Kd.R_reads r4
      obtain ⟨B, d, rfl, l5, q5⟩ := Kd.R_reads r5
      obtain ⟨hE, hg⟩ := readM_put (ns_u8 y.f2) (by rw [ns_length]; omega) hr
      exact ⟨V.x, A, c, B, d, true, rfl, ⟨r4, r5⟩, ⟨fun _ => h1 V p hr, fun h => (by cases h), namesE_some3 hE hg (by rw [ns_length]; exact hs)⟩, hbw⟩
theorem zero_same (A : Option Addr) (c : Nat) (B : Option Addr) (d : Nat) (W : World) (h : zeroNs.at A c B d W) : Calls Tryz.prog 10 #[.agg #[.bool false, .bool false, .bool false, .string ⟨#[]⟩, .slice A 0 c, .slice B 0 d], .agg #[.bool false, .bool false, .bool false, .string ⟨#[]⟩, .slice none 0 0, .slice none 0 0]] W (fun e w' => e = .returned (.bool true) ∧ Below W.heap.size W w') := by
  have hat : zeroNs.at none 0 none 0 W := ⟨Kd.C_nil _ _, Nat.le_refl _, Kd.C_nil _ _, Nat.le_refl _⟩
  have := same_walk zeroNs zeroNs A c B d none 0 none 0 W h hat ⟨Nat.zero_le _, Nat.zero_le _, Nat.zero_le _, fun i hi => absurd hi (Nat.not_lt_zero i), fun i hi => absurd hi (Nat.not_lt_zero i)⟩
  have hz : sameB zeroNs zeroNs = true := by simp [sameB, zeroNs, nEq, lEq, allB]
  rwa [hz] at this
end Go.Proofs.YtiohiiekaofkbaaGreatDoor
