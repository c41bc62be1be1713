/- Texts of this claim, as far as they are used here: PNamesBackx16, P3. -/
import Derived.Test.YtiohiiekaofkbaaDoorZ04
import Derived.Test.YtiohiiekaofkbaaDoorZ14
/- Printed for this claim. -/
namespace Go.Proofs.YtiohiiekaofkbaaDoor.PNamesBack
open Go.RowKit Go.Proofs.YtiohiiekaofkbaaDoorW.PrintWords Go.Proofs.YtiohiiekaofkbaaDoorW.PrintLast Go.Proofs.YtiohiiekaofkbaaDoorW.PrintMore
attribute [local go_sem] max2_int min2_int max_two min_two max_three min_three max_four min_four
set_option linter.unusedVariables false
set_option linter.unusedSimpArgs false
def dobbylaw14_Back.l0 : Nat → Int → Bool → Bool → Bool → ByteArray → List (S121) → List (S109) → Bool → Bool → Bool → ByteArray → List (S101) → List (S103) → Option (Bool × Bool × Bool × ByteArray × (List (S101)) × (List (S103)))
  | 0, _, _, _, _, _, _, _, _, _, _, _, _, _ => none
  | k + 1, x4, x258000, x258001, x258002, x258003, x258004, x258005, x263000, x263001, x263002, x263003, x263004, x263005 => if x4 < (x258005.length : Int) then (if 0 ≤ x4 then ((dobbylaw14_backList.f k ((rd_T109 x258005 x4).f1)).bind fun t265 => (if x263005.length < 4398046511104 then (dobbylaw14_Back.l0 k (wrap64 (x4 + 1)) x258000 x258001 x258002 x258003 x258004 x258005 x263000 x263001 x263002 x263003 x263004 (x263005 ++ [(⟨(rd_T109 x258005 x4).f0, t265⟩ : S103)])) else (none))) else (none)) else (some (x263000, x263001, x263002, x263003, x263004, x263005))
def dobbylaw14_Back.f (k : Nat) (a0_0 : Bool) (a0_1 : Bool) (a0_2 : Bool) (a0_3 : ByteArray) (l0_4 : List (S121)) (l0_5 : List (S109)) : Option (Bool × Bool × Bool × ByteArray × (List (S101)) × (List (S103))) := (dobbylaw14_backList.f k l0_4).bind fun t259 => (dobbylaw14_Back.l0 k 0 a0_0 a0_1 a0_2 a0_3 l0_4 l0_5 a0_0 a0_1 a0_2 a0_3 t259 ([] : List (S103)))
theorem dobbylaw14_Back.mono_l : ∀ k, (∀ y0 y1 y2 y3 y4 y5 y6 y7 y8 y9 y10 y11 y12, LeO (dobbylaw14_Back.l0 k y0 y1 y2 y3 y4 y5 y6 y7 y8 y9 y10 y11 y12) (dobbylaw14_Back.l0 (k + 1) y0 y1 y2 y3 y4 y5 y6 y7 y8 y9 y10 y11 y12))
  | 0 => fun _ _ _ _ _ _ _ _ _ _ _ _ _ r h => by simp [dobbylaw14_Back.l0] at h
  | k + 1 => by
    have ih0 := dobbylaw14_Back.mono_l k
    · intro y0 y1 y2 y3 y4 y5 y6 y7 y8 y9 y10 y11 y12
      unfold dobbylaw14_Back.l0
      repeat' first
      | (with_reducible exact ih0 _ _ _ _ _ _ _ _ _ _ _ _ _)
      | (with_reducible exact dobbylaw14_backList.mono _ _)
      | (with_reducible exact LeO.refl _)
      | (with_reducible exact LeO.none _)
      | (with_reducible refine LeO.ite ?_ ?_)
      | (with_reducible refine LeO.bind ?_ (fun _ => ?_))
      | exact ih0 _ _ _ _ _ _ _ _ _ _ _ _ _
      | exact dobbylaw14_backList.mono _ _
      | exact LeO.none _
      | refine LeO.ite ?_ ?_
      | refine LeO.bind ?_ (fun _ => ?_)
theorem dobbylaw14_Back.mono : ∀ a0 a1 a2 a3 a4 a5 k, LeO (dobbylaw14_Back.f k a0 a1 a2 a3 a4 a5) (dobbylaw14_Back.f (k + 1) a0 a1 a2 a3 a4 a5) := by
  intro a0 a1 a2 a3 a4 a5 k
  have ih0 := dobbylaw14_Back.mono_l k
  unfold dobbylaw14_Back.f
  repeat' first
      | (with_reducible exact ih0 _ _ _ _ _ _ _ _ _ _ _ _ _)
      | (with_reducible exact dobbylaw14_backList.mono _ _)
      | (with_reducible exact LeO.refl _)
      | (with_reducible exact LeO.none _)
      | (with_reducible refine LeO.ite ?_ ?_)
      | (with_reducible refine LeO.bind ?_ (fun _ => ?_))
      | exact ih0 _ _ _ _ _ _ _ _ _ _ _ _ _
      | exact dobbylaw14_backList.mono _ _
      | exact LeO.none _
      | refine LeO.ite ?_ ?_
      | refine LeO.bind ?_ (fun _ => ?_)
def dobbylaw14_Back.T1 : Bool × List (List Nat × List Nat) := (true, [([], []), ([0], [0]), ([], []), ([2], [2]), ([], []), ([4], [4]), ([], []), ([6], [6]), ([], []), ([8], [8]), ([9], [9]), ([1, 3, 5, 7, 10], [1, 3, 5, 7, 10]), ([], []), ([12, 11, 10, 0, 1, 2, 3, 4, 5, 6, 7, 8, 9, 10, 11, 12], [11, 12])])
def dobbylaw14_Back.B1 : List Nat := [0, 1, 0, 4, 0, 16, 0, 64, 0, 256, 768, 2047, 0, 8191]
theorem dobbylaw14_Back.tab1 : rtab .any (opsOf Tryd.f14 1) = dobbylaw14_Back.T1 := by kernel_rfl
theorem dobbylaw14_Back.bits1 : waitsOk dobbylaw14_Back.T1.2 dobbylaw14_Back.B1 = true := by kernel_rfl
def dobbylaw14_Back.T5 : Bool × List (List Nat × List Nat) := (true, [([], []), ([0], [0]), ([], []), ([2], [2]), ([], []), ([3, 4], [3, 4]), ([5], [5]), ([6], [6]), ([], []), ([8], [8]), ([], []), ([9, 10], [9, 10]), ([11], [11]), ([12], [12]), ([13], [13]), ([7, 14], [7, 14]), ([15], [15]), ([1, 16, 14], [1, 16]), ([0, 1, 2, 3, 4, 5, 6, 7, 8, 9, 10, 11, 12, 13, 14, 15, 16, 17], []), ([18, 17, 17, 0, 1, 2, 3, 4, 5, 6, 7, 8, 9, 10, 11, 12, 13, 14, 15, 16, 17], [17, 18])])
def dobbylaw14_Back.B5 : List Nat := [0, 1, 0, 4, 0, 28, 60, 124, 0, 256, 0, 1792, 3840, 7936, 16128, 32764, 65532, 131071, 262143, 524287]
theorem dobbylaw14_Back.tab5 : rtab .any (opsOf Tryd.f14 5) = dobbylaw14_Back.T5 := by kernel_rfl
theorem dobbylaw14_Back.bits5 : waitsOk dobbylaw14_Back.T5.2 dobbylaw14_Back.B5 = true := by kernel_rfl
set_option maxHeartbeats 8000000 in
set_option maxRecDepth 100000 in
theorem dobbylaw14_Back.calls (k : Nat) (a0_0 : Bool) (a0_1 : Bool) (a0_2 : Bool) (a0_3 : ByteArray) (A0_4 : Option Addr) (c0_4 : Nat) (l0_4 : List (S121)) (A0_5 : Option Addr) (c0_5 : Nat) (l0_5 : List (S109)) (r1 : Bool) (r2 : Bool) (r3 : Bool) (r4 : ByteArray) (r5 : List (S101)) (r6 : List (S103)) (w : World) (hr0_4 : Kd.C k121 w A0_4 l0_4.length l0_4) (hc0_4 : l0_4.length ≤ c0_4) (hr0_5 : Kd.C k109 w A0_5 l0_5.length l0_5) (hc0_5 : l0_5.length ≤ c0_5) (h : dobbylaw14_Back.f k a0_0 a0_1 a0_2 a0_3 l0_4 l0_5 = some (r1, r2, r3, r4, r5, r6)) :
    Calls Tryd.prog 14 #[.agg #[.bool a0_0, .bool a0_1, .bool a0_2, .string a0_3, .slice A0_4 l0_4.length c0_4, .slice A0_5 l0_5.length c0_5]] w fun e w' => ∃ v4_ v5_ : Value, e = .returned (.agg #[.bool r1, .bool r2, .bool r3, .string r4, v4_, v5_]) ∧ Kd.R k101 101 w' w.heap.size (fun _ => True) v4_ r5 ∧ Kd.S k103 103 w' w.heap.size (fun k_ => some k_ ≠ (v4_ : Value).ownBlock) v5_ r6 ∧ Below w.heap.size w w' := by
  have hu33 := Tryd.underlying33
  have hu25 := Tryd.underlying25
  have hu103 := Tryd.underlying103
  have HR0_4 := Aside0.mk hr0_4
  have HC0_4 := Aside0.mk hc0_4
  clear hr0_4 hc0_4
  have HR0_5 := Aside0.mk hr0_5
  have HC0_5 := Aside0.mk hc0_5
  clear hr0_5 hc0_5
  have HB := Aside0.mk (Below.refl w.heap.size w)
  have H : ((dobbylaw14_backList.f k l0_4).bind fun t259 => (dobbylaw14_Back.l0 k 0 a0_0 a0_1 a0_2 a0_3 l0_4 l0_5 a0_0 a0_1 a0_2 a0_3 t259 ([] : List (S103)))) = some (r1, r2, r3, r4, r5, r6) := h
  clear h
  replace H := Option.bind_eq_some_iff.mp H
  obtain ⟨t259, A20, H⟩ := H
  replace H : (dobbylaw14_Back.l0 k 0 a0_0 a0_1 a0_2 a0_3 l0_4 l0_5 a0_0 a0_1 a0_2 a0_3 t259 ([] : List (S103))) = some (r1, r2, r3, r4, r5, r6) := H
  have A2 := Aside0.mk A20
  clear A20
  have H' := Aside0.mk H
  clear H
  go_enter Tryd.func14, Tryd.ntmps14
  try go_wp2_with (first | ((with_reducible refine gate_dst (N := 1) rfl ?_); refine box_event ?hg (N := 1) ?hd (cs := #[.bool a0_0, .bool a0_1, .bool a0_2, .string a0_3, .slice A0_4 l0_4.length c0_4, .slice A0_5 l0_5.length c0_5]) (t := 33) ?hr ?_; (case hd => rfl); (case hg => rfl); (case hr => first | (go_simp; done) | (go_simp; rfl)); intro gb257 hg w3 hbox hb; have n0_ := Aside0.mk (below_step (by repeat (first | (with_reducible first | exact HB.out | apply below_alloc | apply pw_below_drewN | apply below_drew1) | exact HB.out)) hb); have n1_ := Aside0.mk (hbox); have n2_ := Aside0.mk ((by rw [hg]; exact (below_size (by repeat (first | (with_reducible first | exact HB.out | apply below_alloc | apply pw_below_drewN | apply below_drew1) | exact HB.out))) : w.heap.size ≤ gb257)); have n3_ := Aside0.mk ((by rw [hg]; exact (below_size (by repeat (first | (with_reducible first | exact HB.out | apply below_alloc | apply pw_below_drewN | apply below_drew1) | exact HB.out))) : w.heap.size ≤ gb257)); clear HB; have HB := n0_; have BK257 := n1_; have GW257 := n2_; have GE257 := n3_; clear n0_ n1_ n2_ n3_; clear hb hbox hg) | ((with_reducible refine gate_dst (N := 2) rfl ?_); refine box_event ?hg (N := 2) ?hd (cs := #[.bool false, .bool false, .bool false, .string (⟨#[]⟩ : ByteArray), .slice none 0 0, .slice none 0 0]) (t := 25) ?hr ?_; (case hd => rfl); (case hg => rfl); (case hr => first | (go_simp; done) | (go_simp; rfl)); intro gb258 hg w4 hbox hb; have n0_ := Aside0.mk (blk_below (g := gb257) (o := .cells #[.bool a0_0, .bool a0_1, .bool a0_2, .string a0_3, .slice A0_4 l0_4.length c0_4, .slice A0_5 l0_5.length c0_5] 33 (0, 0)) (by (with_reducible repeat (first | refine blk_drewN ?_ _ | refine blk_drew ?_ | refine blk_alloc ?_ _)); exact BK257.out) hb); have n1_ := Aside0.mk (below_step (by repeat (first | (with_reducible first | exact HB.out | apply below_alloc | apply pw_below_drewN | apply below_drew1 | refine below_set ?_ GE257.out) | exact HB.out)) hb); have n2_ := Aside0.mk (hbox); have n3_ := Aside0.mk ((by rw [hg]; exact (below_size (by repeat (first | (with_reducible first | exact HB.out | apply below_alloc | apply pw_below_drewN | apply below_drew1 | refine below_set ?_ GE257.out) | exact HB.out))) : w.heap.size ≤ gb258)); have n4_ := Aside0.mk ((by rw [hg]; exact (below_size (by repeat (first | (with_reducible first | exact HB.out | apply below_alloc | apply pw_below_drewN | apply below_drew1 | refine below_set ?_ GE257.out) | exact HB.out))) : w.heap.size ≤ gb258)); have n5_ := Aside0.mk ((by rw [hg]; exact Nat.ne_of_lt (blk_lt (g := gb257) (o := .cells #[.bool a0_0, .bool a0_1, .bool a0_2, .string a0_3, .slice A0_4 l0_4.length c0_4, .slice A0_5 l0_5.length c0_5] 33 (0, 0)) (by (with_reducible repeat (first | refine blk_drewN ?_ _ | refine blk_drew ?_ | refine blk_alloc ?_ _)); exact BK257.out)) : gb257 ≠ gb258)); have n6_ := Aside0.mk ((by rw [hg]; exact Nat.ne_of_gt (blk_lt (g := gb257) (o := .cells #[.bool a0_0, .bool a0_1, .bool a0_2, .string a0_3, .slice A0_4 l0_4.length c0_4, .slice A0_5 l0_5.length c0_5] 33 (0, 0)) (by (with_reducible repeat (first | refine blk_drewN ?_ _ | refine blk_drew ?_ | refine blk_alloc ?_ _)); exact BK257.out)) : gb258 ≠ gb257)); clear BK257; clear HB; have BK257 := n0_; have HB := n1_; have BK258 := n2_; have GW258 := n3_; have GE258 := n4_; have NB257_258 := n5_; have NB258_257 := n6_; clear n0_ n1_ n2_ n3_ n4_ n5_ n6_; clear hb hbox hg))
  have n0_ := Aside0.mk (blk_drew BK257.out)
  have n1_ := Aside0.mk (blk_drew BK258.out)
  have n2_ := Aside0.mk (below_drew1 HB.out)
  clear BK257
  clear BK258
  clear HB
  have BK257 := n0_
  have BK258 := n1_
  have HB := n2_
  clear n0_ n1_ n2_
  refine start_ (n := 14) (S := fun w' => w'.cell? ⟨gb257, 0, none⟩ = some (.bool a0_0) ∧ w'.cell? ⟨gb257, 1, none⟩ = some (.bool a0_1) ∧ w'.cell? ⟨gb257, 2, none⟩ = some (.bool a0_2) ∧ w'.cell? ⟨gb257, 3, none⟩ = some (.string a0_3) ∧ w'.cell? ⟨gb257, 4, none⟩ = some (.slice A0_4 l0_4.length c0_4) ∧ w'.cell? ⟨gb257, 5, none⟩ = some (.slice A0_5 l0_5.length c0_5)) (ds := []) #[false, false, false, false, false, false, false, false, false, false, false, false, false, false] (by kernel_rfl) rfl rfl ⟨(blk_cell BK257.out 0).trans rfl, (blk_cell BK257.out 1).trans rfl, (blk_cell BK257.out 2).trans rfl, (blk_cell BK257.out 3).trans rfl, (blk_cell BK257.out 4).trans rfl, (blk_cell BK257.out 5).trans rfl⟩ (fun hHeld => ?_); refine with_tabW dobbylaw14_Back.tab1 dobbylaw14_Back.bits1 (fun HT_ HW_ => ?_)
  generalize w4.drew = w5 at BK257 BK258 HB hHeld ⊢
  refine pure_ (i := 0) (N := some 5) (v := ?_) (a' := ?_) #[true, false, false, false, false, false, false, false, false, false, false, false, false, false] rfl rfl (any_of HT_.out (by kernel_rfl)) (fun _ _ _ h => h) (Or.inl ⟨by rfl, ?_⟩) ?_ ?_
  rotate_left
  · intro w'
    go_simp
    with_reducible rfl
  rotate_left
  · simp only [Act.put, List.setIfInBounds_toArray, List.set_cons_zero, List.set_cons_succ, i64_w, i32_w]
    rfl
  refine pure_ (i := 2) (N := some 7) (v := ?_) (a' := ?_) #[true, false, true, false, false, false, false, false, false, false, false, false, false, false] rfl rfl (any_of HT_.out (by kernel_rfl)) (fun _ _ _ h => h) (Or.inl ⟨by rfl, ?_⟩) ?_ ?_
  rotate_left
  · intro w'
    go_simp
    with_reducible rfl
  rotate_left
  · simp only [Act.put, List.setIfInBounds_toArray, List.set_cons_zero, List.set_cons_succ, i64_w, i32_w]
    rfl
  refine pure_ (i := 4) (N := some 9) (v := ?_) (a' := ?_) #[true, false, true, false, true, false, false, false, false, false, false, false, false, false] rfl rfl (any_of HT_.out (by kernel_rfl)) (fun _ _ _ h => h) (Or.inl ⟨by rfl, ?_⟩) ?_ ?_
  rotate_left
  · intro w'
    go_simp
    with_reducible rfl
  rotate_left
  · simp only [Act.put, List.setIfInBounds_toArray, List.set_cons_zero, List.set_cons_succ, i64_w, i32_w]
    rfl
  refine pure_ (i := 6) (N := some 11) (v := ?_) (a' := ?_) #[true, false, true, false, true, false, true, false, false, false, false, false, false, false] rfl rfl (any_of HT_.out (by kernel_rfl)) (fun _ _ _ h => h) (Or.inl ⟨by rfl, ?_⟩) ?_ ?_
  rotate_left
  · intro w'
    go_simp
    with_reducible rfl
  rotate_left
  · simp only [Act.put, List.setIfInBounds_toArray, List.set_cons_zero, List.set_cons_succ, i64_w, i32_w]
    rfl
  refine pure_ (i := 8) (N := some 13) (v := ?_) (a' := ?_) #[true, false, true, false, true, false, true, false, true, false, false, false, false, false] rfl rfl (any_of HT_.out (by kernel_rfl)) (fun _ _ _ h => h) (Or.inl ⟨by rfl, ?_⟩) ?_ ?_
  rotate_left
  · intro w'
    go_simp
    with_reducible rfl
  rotate_left
  · simp only [Act.put, List.setIfInBounds_toArray, List.set_cons_zero, List.set_cons_succ, i64_w, i32_w]
    rfl
  refine take_ (i := 1) (N := some 6) (v := ?_) (a' := ?_) #[true, true, true, false, true, false, true, false, true, false, false, false, false, false] rfl rfl (take_ofW HT_.out HW_.out (by kernel_rfl)) (fun _ _ _ h => h) (Or.inl ⟨by rfl, ?_⟩) hHeld ?_ ?_
  rotate_left
  · rintro w' ⟨s0, s1, s2, s3, s4, s5⟩
    go_simp
    with_reducible rfl
  rotate_left
  · simp only [Act.put, List.setIfInBounds_toArray, List.set_cons_zero, List.set_cons_succ, i64_w, i32_w]
    rfl
  refine take_ (i := 3) (N := some 8) (v := ?_) (a' := ?_) #[true, true, true, true, true, false, true, false, true, false, false, false, false, false] rfl rfl (take_ofW HT_.out HW_.out (by kernel_rfl)) (fun _ _ _ h => h) (Or.inl ⟨by rfl, ?_⟩) hHeld ?_ ?_
  rotate_left
  · rintro w' ⟨s0, s1, s2, s3, s4, s5⟩
    go_simp
    with_reducible rfl
  rotate_left
  · simp only [Act.put, List.setIfInBounds_toArray, List.set_cons_zero, List.set_cons_succ, i64_w, i32_w]
    rfl
  refine take_ (i := 5) (N := some 10) (v := ?_) (a' := ?_) #[true, true, true, true, true, true, true, false, true, false, false, false, false, false] rfl rfl (take_ofW HT_.out HW_.out (by kernel_rfl)) (fun _ _ _ h => h) (Or.inl ⟨by rfl, ?_⟩) hHeld ?_ ?_
  rotate_left
  · rintro w' ⟨s0, s1, s2, s3, s4, s5⟩
    go_simp
    with_reducible rfl
  rotate_left
  · simp only [Act.put, List.setIfInBounds_toArray, List.set_cons_zero, List.set_cons_succ, i64_w, i32_w]
    rfl
  refine take_ (i := 7) (N := some 12) (v := ?_) (a' := ?_) #[true, true, true, true, true, true, true, true, true, false, false, false, false, false] rfl rfl (take_ofW HT_.out HW_.out (by kernel_rfl)) (fun _ _ _ h => h) (Or.inl ⟨by rfl, ?_⟩) hHeld ?_ ?_
  rotate_left
  · rintro w' ⟨s0, s1, s2, s3, s4, s5⟩
    go_simp
    with_reducible rfl
  rotate_left
  · simp only [Act.put, List.setIfInBounds_toArray, List.set_cons_zero, List.set_cons_succ, i64_w, i32_w]
    rfl
  refine take_ (i := 9) (N := some 14) (v := ?_) (a' := ?_) #[true, true, true, true, true, true, true, true, true, true, false, false, false, false] rfl rfl (take_ofW HT_.out HW_.out (by kernel_rfl)) (fun _ _ _ h => h) (Or.inl ⟨by rfl, ?_⟩) hHeld ?_ ?_
  rotate_left
  · rintro w' ⟨s0, s1, s2, s3, s4, s5⟩
    go_simp
    with_reducible rfl
  rotate_left
  · simp only [Act.put, List.setIfInBounds_toArray, List.set_cons_zero, List.set_cons_succ, i64_w, i32_w]
    rfl
  refine join_ (σ := Value × Nat) 1 #[true, true, true, true, true, true, true, true, true, true, true, true, true, false] (fun s_ => [(15, s_.1), (3, .pointer (some ⟨s_.2, 0, none⟩)), (16, .agg #[.bool a0_0, .bool a0_1, .bool a0_2, .string a0_3, s_.1, .slice none 0 0])]) (fun s_ w' => (w'.cell? ⟨gb257, 0, none⟩ = some (.bool a0_0) ∧ w'.cell? ⟨gb257, 1, none⟩ = some (.bool a0_1) ∧ w'.cell? ⟨gb257, 2, none⟩ = some (.bool a0_2) ∧ w'.cell? ⟨gb257, 3, none⟩ = some (.string a0_3) ∧ w'.cell? ⟨gb257, 4, none⟩ = some (.slice A0_4 l0_4.length c0_4) ∧ w'.cell? ⟨gb257, 5, none⟩ = some (.slice A0_5 l0_5.length c0_5)) ∧ (Kd.R k101 101 w' w.heap.size (fun _ => True) s_.1 t259) ∧ (w'.heap[gb257]? = some (.cells #[.bool a0_0, .bool a0_1, .bool a0_2, .string a0_3, .slice A0_4 l0_4.length c0_4, .slice A0_5 l0_5.length c0_5] 33 (0, 0))) ∧ (w'.heap[gb258]? = some (.cells #[.bool false, .bool false, .bool false, .string (⟨#[]⟩ : ByteArray), .slice none 0 0, .slice none 0 0] 25 (0, 0))) ∧ (w'.heap[s_.2]? = some (.cells #[.bool false, .bool false, .bool false, .string (⟨#[]⟩ : ByteArray), .slice none 0 0, .slice none 0 0] 25 (0, 0))) ∧ (w.heap.size ≤ s_.2) ∧ (w.heap.size ≤ s_.2) ∧ (gb257 ≠ s_.2) ∧ (s_.2 ≠ gb257) ∧ (gb258 ≠ s_.2) ∧ (s_.2 ≠ gb258) ∧ (Below w.heap.size w w')) ?_ ?_
  rotate_left
  · intro hCont
    refine two_ (i := 10) (j := 12) (Ni := some 15) (Nj := some 3) #[true, true, true, true, true, true, true, true, true, true, true, false, false, false] #[true, true, true, true, true, true, true, true, true, true, false, false, true, false] rfl rfl rfl rfl (two_of HT_.out (by kernel_rfl)) (by decide) (by decide) (fun K hK => ?_) (fun K hK => ?_)
    · skip
      refine goes_ Tryd.func71 (by kernel_rfl) rfl #[.slice A0_4 l0_4.length c0_4] (by rfl) rfl rfl (by (try simp only [List.map_toArray, List.map_cons, List.map_nil]); first | done | rfl | (simp only [List.length_drop, List.length_take]; rfl)) ?_
      with_reducible refine (dobbylaw14_backList.calls k _ _ l0_4 t259 _ ?side1 ?side2 A2.out).mono ?_
      (case side1 => repeat (first | exact (Kd.C_below HR0_4.out HB.out) | (with_reducible refine Kd.C_alloc ?_ _) | (with_reducible refine Kd.C_drewN ?_ _) | (with_reducible refine Kd.C_drew ?_)))
      (case side2 => exact HC0_4.out)
      rintro e w6 ⟨v260, rfl, ho0, hb⟩
      refine ⟨_, rfl, ?_⟩
      have n0_ := Aside0.mk (Kd.R_lower ho0 (below_size (by repeat (first | (with_reducible first | exact HB.out | apply below_alloc | apply pw_below_drewN | apply below_drew1 | refine below_set ?_ GE257.out | refine below_set ?_ GE258.out) | exact HB.out))))
      have n1_ := Aside0.mk (blk_below (g := gb257) (o := .cells #[.bool a0_0, .bool a0_1, .bool a0_2, .string a0_3, .slice A0_4 l0_4.length c0_4, .slice A0_5 l0_5.length c0_5] 33 (0, 0)) (by (with_reducible repeat (first | refine blk_drewN ?_ _ | refine blk_drew ?_ | refine blk_alloc ?_ _)); exact BK257.out) hb)
      have n2_ := Aside0.mk (blk_below (g := gb258) (o := .cells #[.bool false, .bool false, .bool false, .string (⟨#[]⟩ : ByteArray), .slice none 0 0, .slice none 0 0] 25 (0, 0)) (by (with_reducible repeat (first | refine blk_drewN ?_ _ | refine blk_drew ?_ | refine blk_alloc ?_ _)); exact BK258.out) hb)
      have n3_ := Aside0.mk (below_step (by repeat (first | (with_reducible first | exact HB.out | apply below_alloc | apply pw_below_drewN | apply below_drew1 | refine below_set ?_ GE257.out | refine below_set ?_ GE258.out) | exact HB.out)) hb)
      clear BK257
      clear BK258
      clear HB
      have HO261 := n0_
      have BK257 := n1_
      have BK258 := n2_
      have HB := n3_
      clear n0_ n1_ n2_ n3_
      (try clear hb)
      (try clear hb2)
      (try clear hk)
      (try clear hi)
      (try clear ho0)
      obtain ⟨Ao7, co7, eo7⟩ := Kd.R_slice HO261.out
      (first | subst eo7 | (injection eo7 with f1_ f2_ f3_; have f4_ := f1_.symm; have f5_ := f3_.symm; clear f1_ f2_ f3_; subst f4_; subst f5_))
      refine hK.out _ _ ⟨(blk_cell BK257.out 0).trans rfl, (blk_cell BK257.out 1).trans rfl, (blk_cell BK257.out 2).trans rfl, (blk_cell BK257.out 3).trans rfl, (blk_cell BK257.out 4).trans rfl, (blk_cell BK257.out 5).trans rfl⟩ (fun hHeld => ?_)
      clear hK K
      refine norm_ (a' := ?_) ?_ ?_
      rotate_left
      · show Act.put _ (some 15) _ = _
        simp only [Act.put, List.setIfInBounds_toArray, List.set_cons_zero, List.set_cons_succ, i64_w, i32_w]
        rfl
      refine pure_ (i := 11) (N := some 16) (v := ?_) (a' := ?_) #[true, true, true, true, true, true, true, true, true, true, true, true, false, false] rfl rfl (any_of HT_.out (by kernel_rfl)) (fun _ _ _ h => h) (Or.inl ⟨by rfl, ?_⟩) ?_ ?_
      rotate_left
      · intro w'
        go_simp
        with_reducible rfl
      rotate_left
      · simp only [Act.put, List.setIfInBounds_toArray, List.set_cons_zero, List.set_cons_succ, i64_w, i32_w]
        rfl
      refine one_ (i := 12) (N := some 3) #[true, true, true, true, true, true, true, true, true, true, true, true, true, false] rfl rfl (one_of HT_.out (by kernel_rfl)) (by decide) (fun K hK => ?_)
      refine box_step ?hg (N := 3) ?hd (cs := #[.bool false, .bool false, .bool false, .string (⟨#[]⟩ : ByteArray), .slice none 0 0, .slice none 0 0]) (t := 25) ?hr ?_; (case hd => rfl); (case hg => rfl); (case hr => first | (go_simp; done) | (go_simp; rfl))
      intro gb262 hg w8 hbox hb
      have n0_ := Aside0.mk (Kd.R_below (by (with_reducible repeat (first | apply Kd.R_alloc | apply Kd.R_drewN | apply Kd.R_drew)); exact HO261.out) hb)
      have n1_ := Aside0.mk (blk_below (g := gb257) (o := .cells #[.bool a0_0, .bool a0_1, .bool a0_2, .string a0_3, .slice A0_4 l0_4.length c0_4, .slice A0_5 l0_5.length c0_5] 33 (0, 0)) (by (with_reducible repeat (first | refine blk_drewN ?_ _ | refine blk_drew ?_ | refine blk_alloc ?_ _)); exact BK257.out) hb)
      have n2_ := Aside0.mk (blk_below (g := gb258) (o := .cells #[.bool false, .bool false, .bool false, .string (⟨#[]⟩ : ByteArray), .slice none 0 0, .slice none 0 0] 25 (0, 0)) (by (with_reducible repeat (first | refine blk_drewN ?_ _ | refine blk_drew ?_ | refine blk_alloc ?_ _)); exact BK258.out) hb)
      have n3_ := Aside0.mk (below_step (by repeat (first | (with_reducible first | exact HB.out | apply below_alloc | apply pw_below_drewN | apply below_drew1 | refine below_set ?_ GE257.out | refine below_set ?_ GE258.out) | exact HB.out)) hb)
      have n4_ := Aside0.mk (hbox)
      have n5_ := Aside0.mk ((by rw [hg]; exact (below_size (by repeat (first | (with_reducible first | exact HB.out | apply below_alloc | apply pw_below_drewN | apply below_drew1 | refine below_set ?_ GE257.out | refine below_set ?_ GE258.out) | exact HB.out))) : w.heap.size ≤ gb262))
      have n6_ := Aside0.mk ((by rw [hg]; exact (below_size (by repeat (first | (with_reducible first | exact HB.out | apply below_alloc | apply pw_below_drewN | apply below_drew1 | refine below_set ?_ GE257.out | refine below_set ?_ GE258.out) | exact HB.out))) : w.heap.size ≤ gb262))
      have n7_ := Aside0.mk ((by rw [hg]; exact Nat.ne_of_lt (blk_lt (g := gb257) (o := .cells #[.bool a0_0, .bool a0_1, .bool a0_2, .string a0_3, .slice A0_4 l0_4.length c0_4, .slice A0_5 l0_5.length c0_5] 33 (0, 0)) (by (with_reducible repeat (first | refine blk_drewN ?_ _ | refine blk_drew ?_ | refine blk_alloc ?_ _)); exact BK257.out)) : gb257 ≠ gb262))
      have n8_ := Aside0.mk ((by rw [hg]; exact Nat.ne_of_gt (blk_lt (g := gb257) (o := .cells #[.bool a0_0, .bool a0_1, .bool a0_2, .string a0_3, .slice A0_4 l0_4.length c0_4, .slice A0_5 l0_5.length c0_5] 33 (0, 0)) (by (with_reducible repeat (first | refine blk_drewN ?_ _ | refine blk_drew ?_ | refine blk_alloc ?_ _)); exact BK257.out)) : gb262 ≠ gb257))
      have n9_ := Aside0.mk ((by rw [hg]; exact Nat.ne_of_lt (blk_lt (g := gb258) (o := .cells #[.bool false, .bool false, .bool false, .string (⟨#[]⟩ : ByteArray), .slice none 0 0, .slice none 0 0] 25 (0, 0)) (by (with_reducible repeat (first | refine blk_drewN ?_ _ | refine blk_drew ?_ | refine blk_alloc ?_ _)); exact BK258.out)) : gb258 ≠ gb262))
      have n10_ := Aside0.mk ((by rw [hg]; exact Nat.ne_of_gt (blk_lt (g := gb258) (o := .cells #[.bool false, .bool false, .bool false, .string (⟨#[]⟩ : ByteArray), .slice none 0 0, .slice none 0 0] 25 (0, 0)) (by (with_reducible repeat (first | refine blk_drewN ?_ _ | refine blk_drew ?_ | refine blk_alloc ?_ _)); exact BK258.out)) : gb262 ≠ gb258))
      clear HO261
      clear BK257
      clear BK258
      clear HB
      have HO261 := n0_
      have BK257 := n1_
      have BK258 := n2_
      have HB := n3_
      have BK262 := n4_
      have GW262 := n5_
      have GE262 := n6_
      have NB257_262 := n7_
      have NB262_257 := n8_
      have NB258_262 := n9_
      have NB262_258 := n10_
      clear n0_ n1_ n2_ n3_ n4_ n5_ n6_ n7_ n8_ n9_ n10_
      clear hb hbox hg
      refine hK.out _ _ ⟨(blk_cell BK257.out 0).trans rfl, (blk_cell BK257.out 1).trans rfl, (blk_cell BK257.out 2).trans rfl, (blk_cell BK257.out 3).trans rfl, (blk_cell BK257.out 4).trans rfl, (blk_cell BK257.out 5).trans rfl⟩ (fun hHeld => ?_)
      clear hK K
      refine norm_ (a' := ?_) ?_ ?_
      rotate_left
      · show Act.put _ (some 3) _ = _
        simp only [Act.put, List.setIfInBounds_toArray, List.set_cons_zero, List.set_cons_succ, i64_w, i32_w]
        rfl
      exact norm_ (by simp only [putAll, Act.put, List.setIfInBounds_toArray, List.set_cons_zero, List.set_cons_succ]) (hCont (.slice Ao7 t259.length co7, gb262) _ ⟨hHeld, (by (with_reducible repeat (first | apply Kd.R_alloc | apply Kd.R_drewN | apply Kd.R_drew)); exact HO261.out), (by (with_reducible repeat (first | refine blk_drewN ?_ _ | refine blk_drew ?_ | refine blk_alloc ?_ _)); exact BK257.out), (by (with_reducible repeat (first | refine blk_drewN ?_ _ | refine blk_drew ?_ | refine blk_alloc ?_ _)); exact BK258.out), (by (with_reducible repeat (first | refine blk_drewN ?_ _ | refine blk_drew ?_ | refine blk_alloc ?_ _)); exact BK262.out), GW262.out, GE262.out, NB257_262.out, NB262_257.out, NB258_262.out, NB262_258.out, (by repeat (first | (with_reducible first | exact HB.out | apply below_alloc | apply pw_below_drewN | apply below_drew1 | refine below_set ?_ GE257.out | refine below_set ?_ GE258.out | refine below_set ?_ GE262.out) | exact HB.out))⟩)
    · skip
      refine box_step ?hg (N := 3) ?hd (cs := #[.bool false, .bool false, .bool false, .string (⟨#[]⟩ : ByteArray), .slice none 0 0, .slice none 0 0]) (t := 25) ?hr ?_; (case hd => rfl); (case hg => rfl); (case hr => first | (go_simp; done) | (go_simp; rfl))
      intro gb262 hg w6 hbox hb
      have n0_ := Aside0.mk (blk_below (g := gb257) (o := .cells #[.bool a0_0, .bool a0_1, .bool a0_2, .string a0_3, .slice A0_4 l0_4.length c0_4, .slice A0_5 l0_5.length c0_5] 33 (0, 0)) (by (with_reducible repeat (first | refine blk_drewN ?_ _ | refine blk_drew ?_ | refine blk_alloc ?_ _)); exact BK257.out) hb)
      have n1_ := Aside0.mk (blk_below (g := gb258) (o := .cells #[.bool false, .bool false, .bool false, .string (⟨#[]⟩ : ByteArray), .slice none 0 0, .slice none 0 0] 25 (0, 0)) (by (with_reducible repeat (first | refine blk_drewN ?_ _ | refine blk_drew ?_ | refine blk_alloc ?_ _)); exact BK258.out) hb)
      have n2_ := Aside0.mk (below_step (by repeat (first | (with_reducible first | exact HB.out | apply below_alloc | apply pw_below_drewN | apply below_drew1 | refine below_set ?_ GE257.out | refine below_set ?_ GE258.out) | exact HB.out)) hb)
      have n3_ := Aside0.mk (hbox)
      have n4_ := Aside0.mk ((by rw [hg]; exact (below_size (by repeat (first | (with_reducible first | exact HB.out | apply below_alloc | apply pw_below_drewN | apply below_drew1 | refine below_set ?_ GE257.out | refine below_set ?_ GE258.out) | exact HB.out))) : w.heap.size ≤ gb262))
      have n5_ := Aside0.mk ((by rw [hg]; exact (below_size (by repeat (first | (with_reducible first | exact HB.out | apply below_alloc | apply pw_below_drewN | apply below_drew1 | refine below_set ?_ GE257.out | refine below_set ?_ GE258.out) | exact HB.out))) : w.heap.size ≤ gb262))
      have n6_ := Aside0.mk ((by rw [hg]; exact Nat.ne_of_lt (blk_lt (g := gb257) (o := .cells #[.bool a0_0, .bool a0_1, .bool a0_2, .string a0_3, .slice A0_4 l0_4.length c0_4, .slice A0_5 l0_5.length c0_5] 33 (0, 0)) (by (with_reducible repeat (first | refine blk_drewN ?_ _ | refine blk_drew ?_ | refine blk_alloc ?_ _)); exact BK257.out)) : gb257 ≠ gb262))
      have n7_ := Aside0.mk ((by rw [hg]; exact Nat.ne_of_gt (blk_lt (g := gb257) (o := .cells #[.bool a0_0, .bool a0_1, .bool a0_2, .string a0_3, .slice A0_4 l0_4.length c0_4, .slice A0_5 l0_5.length c0_5] 33 (0, 0)) (by (with_reducible repeat (first | refine blk_drewN ?_ _ | refine blk_drew ?_ | refine blk_alloc ?_ _)); exact BK257.out)) : gb262 ≠ gb257))
      have n8_ := Aside0.mk ((by rw [hg]; exact Nat.ne_of_lt (blk_lt (g := gb258) (o := .cells #[.bool false, .bool false, .bool false, .string (⟨#[]⟩ : ByteArray), .slice none 0 0, .slice none 0 0] 25 (0, 0)) (by (with_reducible repeat (first | refine blk_drewN ?_ _ | refine blk_drew ?_ | refine blk_alloc ?_ _)); exact BK258.out)) : gb258 ≠ gb262))
      have n9_ := Aside0.mk ((by rw [hg]; exact Nat.ne_of_gt (blk_lt (g := gb258) (o := .cells #[.bool false, .bool false, .bool false, .string (⟨#[]⟩ : ByteArray), .slice none 0 0, .slice none 0 0] 25 (0, 0)) (by (with_reducible repeat (first | refine blk_drewN ?_ _ | refine blk_drew ?_ | refine blk_alloc ?_ _)); exact BK258.out)) : gb262 ≠ gb258))
      clear BK257
      clear BK258
      clear HB
      have BK257 := n0_
      have BK258 := n1_
      have HB := n2_
      have BK262 := n3_
      have GW262 := n4_
      have GE262 := n5_
      have NB257_262 := n6_
      have NB262_257 := n7_
      have NB258_262 := n8_
      have NB262_258 := n9_
      clear n0_ n1_ n2_ n3_ n4_ n5_ n6_ n7_ n8_ n9_
      clear hb hbox hg
      refine hK.out _ _ ⟨(blk_cell BK257.out 0).trans rfl, (blk_cell BK257.out 1).trans rfl, (blk_cell BK257.out 2).trans rfl, (blk_cell BK257.out 3).trans rfl, (blk_cell BK257.out 4).trans rfl, (blk_cell BK257.out 5).trans rfl⟩ (fun hHeld => ?_)
      clear hK K
      refine norm_ (a' := ?_) ?_ ?_
      rotate_left
      · show Act.put _ (some 3) _ = _
        simp only [Act.put, List.setIfInBounds_toArray, List.set_cons_zero, List.set_cons_succ, i64_w, i32_w]
        rfl
      refine one_ (i := 10) (N := some 15) #[true, true, true, true, true, true, true, true, true, true, true, false, true, false] rfl rfl (one_of HT_.out (by kernel_rfl)) (by decide) (fun K hK => ?_)
      refine goes_ Tryd.func71 (by kernel_rfl) rfl #[.slice A0_4 l0_4.length c0_4] (by rfl) rfl rfl (by (try simp only [List.map_toArray, List.map_cons, List.map_nil]); first | done | rfl | (simp only [List.length_drop, List.length_take]; rfl)) ?_
      with_reducible refine (dobbylaw14_backList.calls k _ _ l0_4 t259 _ ?side1 ?side2 A2.out).mono ?_
      (case side1 => repeat (first | exact (Kd.C_below HR0_4.out HB.out) | (with_reducible refine Kd.C_alloc ?_ _) | (with_reducible refine Kd.C_drewN ?_ _) | (with_reducible refine Kd.C_drew ?_)))
      (case side2 => exact HC0_4.out)
      rintro e w7 ⟨v260, rfl, ho0, hb⟩
      refine ⟨_, rfl, ?_⟩
      have n0_ := Aside0.mk (Kd.R_lower ho0 (below_size (by repeat (first | (with_reducible first | exact HB.out | apply below_alloc | apply pw_below_drewN | apply below_drew1 | refine below_set ?_ GE257.out | refine below_set ?_ GE258.out | refine below_set ?_ GE262.out) | exact HB.out))))
      have n1_ := Aside0.mk (blk_below (g := gb257) (o := .cells #[.bool a0_0, .bool a0_1, .bool a0_2, .string a0_3, .slice A0_4 l0_4.length c0_4, .slice A0_5 l0_5.length c0_5] 33 (0, 0)) (by (with_reducible repeat (first | refine blk_drewN ?_ _ | refine blk_drew ?_ | refine blk_alloc ?_ _)); exact BK257.out) hb)
      have n2_ := Aside0.mk (blk_below (g := gb258) (o := .cells #[.bool false, .bool false, .bool false, .string (⟨#[]⟩ : ByteArray), .slice none 0 0, .slice none 0 0] 25 (0, 0)) (by (with_reducible repeat (first | refine blk_drewN ?_ _ | refine blk_drew ?_ | refine blk_alloc ?_ _)); exact BK258.out) hb)
      have n3_ := Aside0.mk (blk_below (g := gb262) (o := .cells #[.bool false, .bool false, .bool false, .string (⟨#[]⟩ : ByteArray), .slice none 0 0, .slice none 0 0] 25 (0, 0)) (by (with_reducible repeat (first | refine blk_drewN ?_ _ | refine blk_drew ?_ | refine blk_alloc ?_ _)); exact BK262.out) hb)
      have n4_ := Aside0.mk (below_step (by repeat (first | (with_reducible first | exact HB.out | apply below_alloc | apply pw_below_drewN | apply below_drew1 | refine below_set ?_ GE257.out | refine below_set ?_ GE258.out | refine below_set ?_ GE262.out) | exact HB.out)) hb)
      clear BK257
      clear BK258
      clear BK262
      clear HB
      have HO261 := n0_
      have BK257 := n1_
      have BK258 := n2_
      have BK262 := n3_
      have HB := n4_
      clear n0_ n1_ n2_ n3_ n4_
      (try clear hb)
      (try clear hb2)
      (try clear hk)
      (try clear hi)
      (try clear ho0)
      obtain ⟨Ao8, co8, eo8⟩ := Kd.R_slice HO261.out
      (first | subst eo8 | (injection eo8 with f1_ f2_ f3_; have f4_ := f1_.symm; have f5_ := f3_.symm; clear f1_ f2_ f3_; subst f4_; subst f5_))
      refine hK.out _ _ ⟨(blk_cell BK257.out 0).trans rfl, (blk_cell BK257.out 1).trans rfl, (blk_cell BK257.out 2).trans rfl, (blk_cell BK257.out 3).trans rfl, (blk_cell BK257.out 4).trans rfl, (blk_cell BK257.out 5).trans rfl⟩ (fun hHeld => ?_)
      clear hK K
      refine norm_ (a' := ?_) ?_ ?_
      rotate_left
      · show Act.put _ (some 15) _ = _
        simp only [Act.put, List.setIfInBounds_toArray, List.set_cons_zero, List.set_cons_succ, i64_w, i32_w]
        rfl
      refine pure_ (i := 11) (N := some 16) (v := ?_) (a' := ?_) #[true, true, true, true, true, true, true, true, true, true, true, true, true, false] rfl rfl (any_of HT_.out (by kernel_rfl)) (fun _ _ _ h => h) (Or.inl ⟨by rfl, ?_⟩) ?_ ?_
      rotate_left
      · intro w'
        go_simp
        with_reducible rfl
      rotate_left
      · simp only [Act.put, List.setIfInBounds_toArray, List.set_cons_zero, List.set_cons_succ, i64_w, i32_w]
        rfl
      exact norm_ (by simp only [putAll, Act.put, List.setIfInBounds_toArray, List.set_cons_zero, List.set_cons_succ]) (hCont (.slice Ao8 t259.length co8, gb262) _ ⟨hHeld, (by (with_reducible repeat (first | apply Kd.R_alloc | apply Kd.R_drewN | apply Kd.R_drew)); exact HO261.out), (by (with_reducible repeat (first | refine blk_drewN ?_ _ | refine blk_drew ?_ | refine blk_alloc ?_ _)); exact BK257.out), (by (with_reducible repeat (first | refine blk_drewN ?_ _ | refine blk_drew ?_ | refine blk_alloc ?_ _)); exact BK258.out), (by (with_reducible repeat (first | refine blk_drewN ?_ _ | refine blk_drew ?_ | refine blk_alloc ?_ _)); exact BK262.out), GW262.out, GE262.out, NB257_262.out, NB262_257.out, NB258_262.out, NB262_258.out, (by repeat (first | (with_reducible first | exact HB.out | apply below_alloc | apply pw_below_drewN | apply below_drew1 | refine below_set ?_ GE257.out | refine below_set ?_ GE258.out | refine below_set ?_ GE262.out) | exact HB.out))⟩)
  rintro ⟨v260, gb262⟩ w9 ⟨hS_, h0_, h1_, h2_, h3_, h4_, h5_, h6_, h7_, h8_, h9_, h10_⟩
  have n0_ : Aside0 (Kd.R k101 101 w9 w.heap.size (fun _ => True) v260 t259) := ⟨h0_⟩
  have n1_ : Aside0 (w9.heap[gb257]? = some (.cells #[.bool a0_0, .bool a0_1, .bool a0_2, .string a0_3, .slice A0_4 l0_4.length c0_4, .slice A0_5 l0_5.length c0_5] 33 (0, 0))) := ⟨h1_⟩
  have n2_ : Aside0 (w9.heap[gb258]? = some (.cells #[.bool false, .bool false, .bool false, .string (⟨#[]⟩ : ByteArray), .slice none 0 0, .slice none 0 0] 25 (0, 0))) := ⟨h2_⟩
  have n3_ : Aside0 (w9.heap[gb262]? = some (.cells #[.bool false, .bool false, .bool false, .string (⟨#[]⟩ : ByteArray), .slice none 0 0, .slice none 0 0] 25 (0, 0))) := ⟨h3_⟩
  have n4_ : Aside0 (w.heap.size ≤ gb262) := ⟨h4_⟩
  have n5_ : Aside0 (w.heap.size ≤ gb262) := ⟨h5_⟩
  have n6_ : Aside0 (gb257 ≠ gb262) := ⟨h6_⟩
  have n7_ : Aside0 (gb262 ≠ gb257) := ⟨h7_⟩
  have n8_ : Aside0 (gb258 ≠ gb262) := ⟨h8_⟩
  have n9_ : Aside0 (gb262 ≠ gb258) := ⟨h9_⟩
  have n10_ : Aside0 (Below w.heap.size w w9) := ⟨h10_⟩
  clear BK257
  clear BK258
  clear HB
  clear h0_ h1_ h2_ h3_ h4_ h5_ h6_ h7_ h8_ h9_ h10_
  have HO261 := n0_
  have BK257 := n1_
  have BK258 := n2_
  have BK262 := n3_
  have GW262 := n4_
  have GE262 := n5_
  have NB257_262 := n6_
  have NB262_257 := n7_
  have NB258_262 := n8_
  have NB262_258 := n9_
  have HB := n10_
  clear n0_ n1_ n2_ n3_ n4_ n5_ n6_ n7_ n8_ n9_ n10_
  have hHeld : w9.cell? ⟨gb257, 0, none⟩ = some (.bool a0_0) ∧ w9.cell? ⟨gb257, 1, none⟩ = some (.bool a0_1) ∧ w9.cell? ⟨gb257, 2, none⟩ = some (.bool a0_2) ∧ w9.cell? ⟨gb257, 3, none⟩ = some (.string a0_3) ∧ w9.cell? ⟨gb257, 4, none⟩ = some (.slice A0_4 l0_4.length c0_4) ∧ w9.cell? ⟨gb257, 5, none⟩ = some (.slice A0_5 l0_5.length c0_5) := hS_
  obtain ⟨Ao10, co10, eo10⟩ := Kd.R_slice HO261.out
  (first | subst eo10 | (injection eo10 with f1_ f2_ f3_; have f4_ := f1_.symm; have f5_ := f3_.symm; clear f1_ f2_ f3_; subst f4_; subst f5_))
  refine norm_ (a' := ?_) ?_ ?_
  rotate_left
  · simp only [putAll, Act.put, List.setIfInBounds_toArray, List.set_cons_zero, List.set_cons_succ]
    rfl
  refine one_ (i := 13) (N := none) #[true, true, true, true, true, true, true, true, true, true, true, true, true, true] rfl rfl (one_of HT_.out (by kernel_rfl)) (by decide) (fun K hK => ?_)
  have hs11 : w9.cell? ⟨gb262, 0, none⟩ = some (.bool false) := (blk_cell BK262.out 0).trans rfl
  have hfs11 := blk_frozen BK262.out 0
  have hns11_0 := NB257_262.out
  have hns11_1 := NB258_262.out
  have hms11_0 := NB262_257.out
  have hms11_1 := NB262_258.out
  have hs12 : w9.cell? ⟨gb262, 1, none⟩ = some (.bool false) := (blk_cell BK262.out 1).trans rfl
  have hfs12 := blk_frozen BK262.out 1
  have hns12_0 := NB257_262.out
  have hns12_1 := NB258_262.out
  have hms12_0 := NB262_257.out
  have hms12_1 := NB262_258.out
  have hs13 : w9.cell? ⟨gb262, 2, none⟩ = some (.bool false) := (blk_cell BK262.out 2).trans rfl
  have hfs13 := blk_frozen BK262.out 2
  have hns13_0 := NB257_262.out
  have hns13_1 := NB258_262.out
  have hms13_0 := NB262_257.out
  have hms13_1 := NB262_258.out
  have hs14 : w9.cell? ⟨gb262, 3, none⟩ = some (.string (⟨#[]⟩ : ByteArray)) := (blk_cell BK262.out 3).trans rfl
  have hfs14 := blk_frozen BK262.out 3
  have hns14_0 := NB257_262.out
  have hns14_1 := NB258_262.out
  have hms14_0 := NB262_257.out
  have hms14_1 := NB262_258.out
  have hs15 : w9.cell? ⟨gb262, 4, none⟩ = some (.slice none 0 0) := (blk_cell BK262.out 4).trans rfl
  have hfs15 := blk_frozen BK262.out 4
  have hns15_0 := NB257_262.out
  have hns15_1 := NB258_262.out
  have hms15_0 := NB262_257.out
  have hms15_1 := NB262_258.out
  have hs16 : w9.cell? ⟨gb262, 5, none⟩ = some (.slice none 0 0) := (blk_cell BK262.out 5).trans rfl
  have hfs16 := blk_frozen BK262.out 5
  have hns16_0 := NB257_262.out
  have hns16_1 := NB258_262.out
  have hms16_0 := NB262_257.out
  have hms16_1 := NB262_258.out
  refine skip_ (w1 := ?_) (by rfl) rfl ?_ ?_
  rotate_left
  · go_simp
    rfl
  refine hK.out _ _ ⟨((cell_far (p := ⟨gb262, _, none⟩) NB257_262.out _).trans (((cell_far (p := ⟨gb262, _, none⟩) NB257_262.out _).trans (((cell_far (p := ⟨gb262, _, none⟩) NB257_262.out _).trans (((cell_far (p := ⟨gb262, _, none⟩) NB257_262.out _).trans (((cell_far (p := ⟨gb262, _, none⟩) NB257_262.out _).trans (((cell_far (p := ⟨gb262, _, none⟩) NB257_262.out _).trans (hHeld.1)))))))))))), ((cell_far (p := ⟨gb262, _, none⟩) NB257_262.out _).trans (((cell_far (p := ⟨gb262, _, none⟩) NB257_262.out _).trans (((cell_far (p := ⟨gb262, _, none⟩) NB257_262.out _).trans (((cell_far (p := ⟨gb262, _, none⟩) NB257_262.out _).trans (((cell_far (p := ⟨gb262, _, none⟩) NB257_262.out _).trans (((cell_far (p := ⟨gb262, _, none⟩) NB257_262.out _).trans (hHeld.2.1)))))))))))), ((cell_far (p := ⟨gb262, _, none⟩) NB257_262.out _).trans (((cell_far (p := ⟨gb262, _, none⟩) NB257_262.out _).trans (((cell_far (p := ⟨gb262, _, none⟩) NB257_262.out _).trans (((cell_far (p := ⟨gb262, _, none⟩) NB257_262.out _).trans (((cell_far (p := ⟨gb262, _, none⟩) NB257_262.out _).trans (((cell_far (p := ⟨gb262, _, none⟩) NB257_262.out _).trans (hHeld.2.2.1)))))))))))), ((cell_far (p := ⟨gb262, _, none⟩) NB257_262.out _).trans (((cell_far (p := ⟨gb262, _, none⟩) NB257_262.out _).trans (((cell_far (p := ⟨gb262, _, none⟩) NB257_262.out _).trans (((cell_far (p := ⟨gb262, _, none⟩) NB257_262.out _).trans (((cell_far (p := ⟨gb262, _, none⟩) NB257_262.out _).trans (((cell_far (p := ⟨gb262, _, none⟩) NB257_262.out _).trans (hHeld.2.2.2.1)))))))))))), ((cell_far (p := ⟨gb262, _, none⟩) NB257_262.out _).trans (((cell_far (p := ⟨gb262, _, none⟩) NB257_262.out _).trans (((cell_far (p := ⟨gb262, _, none⟩) NB257_262.out _).trans (((cell_far (p := ⟨gb262, _, none⟩) NB257_262.out _).trans (((cell_far (p := ⟨gb262, _, none⟩) NB257_262.out _).trans (((cell_far (p := ⟨gb262, _, none⟩) NB257_262.out _).trans (hHeld.2.2.2.2.1)))))))))))), ((cell_far (p := ⟨gb262, _, none⟩) NB257_262.out _).trans (((cell_far (p := ⟨gb262, _, none⟩) NB257_262.out _).trans (((cell_far (p := ⟨gb262, _, none⟩) NB257_262.out _).trans (((cell_far (p := ⟨gb262, _, none⟩) NB257_262.out _).trans (((cell_far (p := ⟨gb262, _, none⟩) NB257_262.out _).trans (((cell_far (p := ⟨gb262, _, none⟩) NB257_262.out _).trans (hHeld.2.2.2.2.2))))))))))))⟩ (fun hHeld => ?_)
  clear hK K
  refine done_ (done_of HT_.out (by kernel_rfl)) ?_
  try go_wp2
  go_loopg [4] k (fun kq v4 w' => ∃ (x4_1 : Int) (x263005_1 : List (S103)) (u263005 : Value), v4 = .int .i64 x4_1 ∧ Aside0 (dobbylaw14_Back.l0 kq x4_1 a0_0 a0_1 a0_2 a0_3 l0_4 l0_5 a0_0 a0_1 a0_2 a0_3 t259 x263005_1 = some (r1, r2, r3, r4, r5, r6)) ∧ Aside0 (kq ≤ k) ∧ Aside0 (Kd.R k101 101 w' w.heap.size (fun _ => True) (.slice Ao10 t259.length co10) t259) ∧ Aside0 (Kd.S k103 103 w' w.heap.size (fun k_ => some k_ ≠ ((.slice Ao10 t259.length co10) : Value).ownBlock) u263005 x263005_1) ∧ Aside0 (w'.heap[gb257]? = some (.cells #[.bool a0_0, .bool a0_1, .bool a0_2, .string a0_3, (.slice A0_4 l0_4.length c0_4), (.slice A0_5 l0_5.length c0_5)] 33 (0, 0))) ∧ Aside0 (w'.heap[gb258]? = some (.cells #[.bool false, .bool false, .bool false, .string (⟨#[]⟩ : ByteArray), (.slice none 0 0), (.slice none 0 0)] 25 (0, 0))) ∧ Aside0 (w'.heap[gb262]? = some (.cells #[.bool a0_0, .bool a0_1, .bool a0_2, .string a0_3, (.slice Ao10 t259.length co10), u263005] 25 (0, 0))) ∧ Aside0 (Below w.heap.size w w'))
  case atStart => exact ⟨(0), (([] : List (S103))), (.slice none 0 0), (by first | rfl | (simp; done) | (simp [*]; done)), H', ⟨Nat.le_refl _⟩, ⟨by (with_reducible repeat (first | apply Kd.R_alloc | apply Kd.R_drewN | apply Kd.R_drew)); exact Kd.R_mono (Kd.R_far (p := ⟨gb262, 5, none⟩) (Kd.R_far (p := ⟨gb262, 4, none⟩) (Kd.R_far (p := ⟨gb262, 3, none⟩) (Kd.R_far (p := ⟨gb262, 2, none⟩) (Kd.R_far (p := ⟨gb262, 1, none⟩) (Kd.R_far (p := ⟨gb262, 0, none⟩) (Kd.R_types HO261.out BK262.out (by decide)) (fun _ hk => hk.2) (.bool a0_0)) (fun _ hk => hk.2) (.bool a0_1)) (fun _ hk => hk.2) (.bool a0_2)) (fun _ hk => hk.2) (.string a0_3)) (fun _ hk => hk.2) (.slice Ao10 t259.length co10)) (fun _ hk => hk.2) (.slice none 0 0)) (fun _ hk => trivial)⟩, ⟨by first | exact Kd.S_nil _ _ _ _ _ | exact Kd.N_nil _ _ _ _ _ | exact Kd.V_nil _ _ _ _ _ | exact Kd.Q_nil _ _ _ _ _ | exact Kd.R_nil _ _ _ _ _⟩, ⟨by (with_reducible repeat (first | refine blk_drewN ?_ _ | refine blk_drew ?_ | refine blk_alloc ?_ _)); refine blk_far ?_ NB257_262.out _; (with_reducible repeat (first | refine blk_drewN ?_ _ | refine blk_drew ?_ | refine blk_alloc ?_ _)); refine blk_far ?_ NB257_262.out _; (with_reducible repeat (first | refine blk_drewN ?_ _ | refine blk_drew ?_ | refine blk_alloc ?_ _)); refine blk_far ?_ NB257_262.out _; (with_reducible repeat (first | refine blk_drewN ?_ _ | refine blk_drew ?_ | refine blk_alloc ?_ _)); refine blk_far ?_ NB257_262.out _; (with_reducible repeat (first | refine blk_drewN ?_ _ | refine blk_drew ?_ | refine blk_alloc ?_ _)); refine blk_far ?_ NB257_262.out _; (with_reducible repeat (first | refine blk_drewN ?_ _ | refine blk_drew ?_ | refine blk_alloc ?_ _)); refine blk_far ?_ NB257_262.out _; (with_reducible repeat (first | refine blk_drewN ?_ _ | refine blk_drew ?_ | refine blk_alloc ?_ _)); exact BK257.out⟩, ⟨by (with_reducible repeat (first | refine blk_drewN ?_ _ | refine blk_drew ?_ | refine blk_alloc ?_ _)); refine blk_far ?_ NB258_262.out _; (with_reducible repeat (first | refine blk_drewN ?_ _ | refine blk_drew ?_ | refine blk_alloc ?_ _)); refine blk_far ?_ NB258_262.out _; (with_reducible repeat (first | refine blk_drewN ?_ _ | refine blk_drew ?_ | refine blk_alloc ?_ _)); refine blk_far ?_ NB258_262.out _; (with_reducible repeat (first | refine blk_drewN ?_ _ | refine blk_drew ?_ | refine blk_alloc ?_ _)); refine blk_far ?_ NB258_262.out _; (with_reducible repeat (first | refine blk_drewN ?_ _ | refine blk_drew ?_ | refine blk_alloc ?_ _)); refine blk_far ?_ NB258_262.out _; (with_reducible repeat (first | refine blk_drewN ?_ _ | refine blk_drew ?_ | refine blk_alloc ?_ _)); refine blk_far ?_ NB258_262.out _; (with_reducible repeat (first | refine blk_drewN ?_ _ | refine blk_drew ?_ | refine blk_alloc ?_ _)); exact BK258.out⟩, ⟨by (with_reducible repeat (first | refine blk_drewN ?_ _ | refine blk_drew ?_ | refine blk_alloc ?_ _)); refine blk_put (cs := #[.bool a0_0, .bool a0_1, .bool a0_2, .string a0_3, .slice Ao10 t259.length co10, .slice none 0 0]) ?_ 5 _ rfl; (with_reducible repeat (first | refine blk_drewN ?_ _ | refine blk_drew ?_ | refine blk_alloc ?_ _)); refine blk_put (cs := #[.bool a0_0, .bool a0_1, .bool a0_2, .string a0_3, .slice none 0 0, .slice none 0 0]) ?_ 4 _ rfl; (with_reducible repeat (first | refine blk_drewN ?_ _ | refine blk_drew ?_ | refine blk_alloc ?_ _)); refine blk_put (cs := #[.bool a0_0, .bool a0_1, .bool a0_2, .string (⟨#[]⟩ : ByteArray), .slice none 0 0, .slice none 0 0]) ?_ 3 _ rfl; (with_reducible repeat (first | refine blk_drewN ?_ _ | refine blk_drew ?_ | refine blk_alloc ?_ _)); refine blk_put (cs := #[.bool a0_0, .bool a0_1, .bool false, .string (⟨#[]⟩ : ByteArray), .slice none 0 0, .slice none 0 0]) ?_ 2 _ rfl; (with_reducible repeat (first | refine blk_drewN ?_ _ | refine blk_drew ?_ | refine blk_alloc ?_ _)); refine blk_put (cs := #[.bool a0_0, .bool false, .bool false, .string (⟨#[]⟩ : ByteArray), .slice none 0 0, .slice none 0 0]) ?_ 1 _ rfl; (with_reducible repeat (first | refine blk_drewN ?_ _ | refine blk_drew ?_ | refine blk_alloc ?_ _)); refine blk_put (cs := #[.bool false, .bool false, .bool false, .string (⟨#[]⟩ : ByteArray), .slice none 0 0, .slice none 0 0]) ?_ 0 _ rfl; (with_reducible repeat (first | refine blk_drewN ?_ _ | refine blk_drew ?_ | refine blk_alloc ?_ _)); exact BK262.out⟩, ⟨by repeat (first | (with_reducible first | exact HB.out | apply below_alloc | apply pw_below_drewN | apply below_drew1 | refine below_set ?_ GE257.out | refine below_set ?_ GE258.out | refine below_set ?_ GE262.out) | exact HB.out)⟩⟩
  case round =>
    clear H'
    try clear c1
    try clear p2
    try clear c7
    try clear c14
    obtain ⟨x4_1, x263005_1, u263005, rfl, HA, HK1, HO_263004, HO_263005, BK257, BK258, BK262, HB⟩ := hrel
    cases gk with
    | zero => exact absurd HA.out (by simp [dobbylaw14_Back.l0])
    | succ k1 =>
      have H := HA.out
      clear HA
      simp only [dobbylaw14_Back.l0] at H
      by_cases c17 : x4_1 < (l0_5.length : Int)
      · rw [if_pos c17] at H
        have c17b0 : decide (x4_1 < (l0_5.length : Int)) = true := decide_eq_true c17
        clear c17
        by_cases c18 : 0 ≤ x4_1
        · rw [if_pos c18] at H
          have c18b0 : decide (0 ≤ x4_1) = true := decide_eq_true c18
          clear c18
          replace H := Option.bind_eq_some_iff.mp H
          obtain ⟨t265, A190, H⟩ := H
          replace H : (if x263005_1.length < 4398046511104 then (dobbylaw14_Back.l0 k1 (wrap64 (x4_1 + 1)) a0_0 a0_1 a0_2 a0_3 l0_4 l0_5 a0_0 a0_1 a0_2 a0_3 t259 (x263005_1 ++ [(⟨(rd_T109 l0_5 x4_1).f0, t265⟩ : S103)])) else (none)) = some (r1, r2, r3, r4, r5, r6) := H
          have A19 := Aside0.mk A190
          clear A190
          by_cases c20 : x263005_1.length < 4398046511104
          · rw [if_pos c20] at H
            have LMc20 := Aside0.mk c20
            clear c20
            obtain ⟨y268, hy268⟩ : ∃ y_ : List (S103), y_ = (x263005_1 ++ [(⟨(rd_T109 l0_5 x4_1).f0, t265⟩ : S103)]) := ⟨_, rfl⟩
            replace H : (dobbylaw14_Back.l0 k1 (wrap64 (x4_1 + 1)) a0_0 a0_1 a0_2 a0_3 l0_4 l0_5 a0_0 a0_1 a0_2 a0_3 t259 y268) = some (r1, r2, r3, r4, r5, r6) := by first | (rw [hy268]; with_reducible exact H) | (have H2_ := (Option.bind_some _ _).symm.trans H; rw [hy268]; with_reducible exact H2_) | (have H2_ := (Option.bind_some _ _).symm.trans H; with_reducible exact H2_) | with_reducible exact H | (rw [hy268]; exact H) | exact H
            have Ny268 := Aside0.mk hy268
            clear hy268
            have H' := Aside0.mk H
            clear H
            have hnb21 := NB257_258.out
            have hnc21 := NB258_257.out
            have hnb22 := NB257_262.out
            have hnc22 := NB262_257.out
            have hcz23_0 : wr.cell? ⟨gb257, 0, none⟩ = some (.bool a0_0) := (blk_cell BK257.out 0).trans rfl
            have hcz23_1 : wr.cell? ⟨gb257, 1, none⟩ = some (.bool a0_1) := (blk_cell BK257.out 1).trans rfl
            have hcz23_2 : wr.cell? ⟨gb257, 2, none⟩ = some (.bool a0_2) := (blk_cell BK257.out 2).trans rfl
            have hcz23_3 : wr.cell? ⟨gb257, 3, none⟩ = some (.string a0_3) := (blk_cell BK257.out 3).trans rfl
            have hcz23_4 : wr.cell? ⟨gb257, 4, none⟩ = some (.slice A0_4 l0_4.length c0_4) := (blk_cell BK257.out 4).trans rfl
            have hcz23_5 : wr.cell? ⟨gb257, 5, none⟩ = some (.slice A0_5 l0_5.length c0_5) := (blk_cell BK257.out 5).trans rfl
            have hfz23_0 := blk_frozen BK257.out 0
            have hfz23_1 := blk_frozen BK257.out 1
            have hfz23_2 := blk_frozen BK257.out 2
            have hfz23_3 := blk_frozen BK257.out 3
            have hfz23_4 := blk_frozen BK257.out 4
            have hfz23_5 := blk_frozen BK257.out 5
            try go_wp2
            have n0_ := Aside0.mk (Kd.R_drew HO_263004.out)
            have n1_ := Aside0.mk (Kd.S_drew HO_263005.out)
            have n2_ := Aside0.mk (blk_drew BK257.out)
            have n3_ := Aside0.mk (blk_drew BK258.out)
            have n4_ := Aside0.mk (blk_drew BK262.out)
            have n5_ := Aside0.mk (below_drew1 HB.out)
            clear HO_263004
            clear HO_263005
            clear BK257
            clear BK258
            clear BK262
            clear HB
            have HO_263004 := n0_
            have HO_263005 := n1_
            have BK257 := n2_
            have BK258 := n3_
            have BK262 := n4_
            have HB := n5_
            clear n0_ n1_ n2_ n3_ n4_ n5_
            have p263 : 0 ≤ (x4_1 : Int) := of_decide_eq_true (by first | (with_reducible assumption) | assumption)
            have q263 : x4_1 < (l0_5.length : Int) := of_decide_eq_true (by first | (with_reducible assumption) | assumption)
            obtain ⟨ad263, A263_1, c263_1, e263, hx263_0, hx263_1, hl263_1, hi263_1⟩ := at_T109 HR0_5.out x4_1 p263 q263
            have hw263_1 := hx263_1
            have hw263_0 := hx263_0
            cases e263
            replace hx263_0 := (HB.out.cell (World.block_lt_of_cell? w _ hx263_0)).trans hx263_0
            replace hx263_1 := (HB.out.cell (World.block_lt_of_cell? w _ hx263_1)).trans hx263_1
            have HR263_1 := Aside0.mk hi263_1
            have HC263_1 := Aside0.mk hl263_1
            clear hi263_1 hl263_1
            replace p263 := eq_true p263
            replace q263 := eq_true q263
            have p264 : 0 ≤ (x4_1 : Int) := of_decide_eq_true (by first | (with_reducible assumption) | assumption)
            have q264 : x4_1 < (l0_5.length : Int) := of_decide_eq_true (by first | (with_reducible assumption) | assumption)
            obtain ⟨ad264, A264_1, c264_1, e264, hx264_0, hx264_1, hl264_1, hi264_1⟩ := at_T109 HR0_5.out x4_1 p264 q264
            have hw264_1 := hx264_1
            have hw264_0 := hx264_0
            obtain rfl : ad263 = ad264 := (by injection e264)
            replace hx264_0 := (HB.out.cell (World.block_lt_of_cell? w _ hx264_0)).trans hx264_0
            replace hx264_1 := (HB.out.cell (World.block_lt_of_cell? w _ hx264_1)).trans hx264_1
            have HR264_1 := Aside0.mk hi264_1
            have HC264_1 := Aside0.mk hl264_1
            clear hi264_1 hl264_1
            replace p264 := eq_true p264
            replace q264 := eq_true q264
            have ea_ := Option.some.inj (hx263_1.symm.trans hx264_1)
            injection ea_ with ea_ en_ ec_
            subst ea_
            subst ec_
            clear en_
            refine start_ (n := 20) (S := fun w' => w'.cell? ⟨gb262, 0, none⟩ = some (.bool a0_0) ∧ w'.cell? ⟨gb262, 1, none⟩ = some (.bool a0_1) ∧ w'.cell? ⟨gb262, 2, none⟩ = some (.bool a0_2) ∧ w'.cell? ⟨gb262, 3, none⟩ = some (.string a0_3) ∧ w'.cell? ⟨gb262, 4, none⟩ = some (.slice Ao10 t259.length co10) ∧ w'.cell? ⟨gb262, 5, none⟩ = some (u263005) ∧ w'.cell? ⟨gb257, 0, none⟩ = some (.bool a0_0) ∧ w'.cell? ⟨gb257, 1, none⟩ = some (.bool a0_1) ∧ w'.cell? ⟨gb257, 2, none⟩ = some (.bool a0_2) ∧ w'.cell? ⟨gb257, 3, none⟩ = some (.string a0_3) ∧ w'.cell? ⟨gb257, 4, none⟩ = some (.slice A0_4 l0_4.length c0_4) ∧ w'.cell? ⟨gb257, 5, none⟩ = some (.slice (some ad263) l0_5.length c0_5) ∧ w'.cell? (ad263.add ((x4_1).toNat * 2)) = some (.int .u32 ((rd_T109 l0_5 x4_1).f0)) ∧ w'.cell? ⟨(ad263.add ((x4_1).toNat * 2)).block, (ad263.add ((x4_1).toNat * 2)).off + 1, none⟩ = some (.slice A263_1 ((rd_T109 l0_5 x4_1).f1).length c263_1) ∧ w'.cell? (ad263.add ((x4_1).toNat * 2)) = some (.int .u32 ((rd_T109 l0_5 x4_1).f0)) ∧ w'.cell? ⟨(ad263.add ((x4_1).toNat * 2)).block, (ad263.add ((x4_1).toNat * 2)).off + 1, none⟩ = some (.slice A263_1 ((rd_T109 l0_5 x4_1).f1).length c263_1)) (ds := [19]) #[false, false, false, false, false, false, false, false, false, false, false, false, false, false, false, false, false, false, false, false] (by kernel_rfl) rfl rfl ⟨(blk_cell BK262.out 0).trans rfl, (blk_cell BK262.out 1).trans rfl, (blk_cell BK262.out 2).trans rfl, (blk_cell BK262.out 3).trans rfl, (blk_cell BK262.out 4).trans rfl, (blk_cell BK262.out 5).trans rfl, (blk_cell BK257.out 0).trans rfl, (blk_cell BK257.out 1).trans rfl, (blk_cell BK257.out 2).trans rfl, (blk_cell BK257.out 3).trans rfl, (blk_cell BK257.out 4).trans rfl, (blk_cell BK257.out 5).trans rfl, ((HB.out.cell (World.block_lt_of_cell? w _ hw263_0)).trans hw263_0), ((HB.out.cell (World.block_lt_of_cell? w _ hw263_1)).trans hw263_1), ((HB.out.cell (World.block_lt_of_cell? w _ hw264_0)).trans hw264_0), ((HB.out.cell (World.block_lt_of_cell? w _ hw264_1)).trans hw264_1)⟩ (fun hHeld => ?_); refine with_tabW dobbylaw14_Back.tab5 dobbylaw14_Back.bits5 (fun HT_ HW_ => ?_)
            generalize wr.drew = w24 at HO_263004 HO_263005 BK257 BK258 BK262 HB HR263_1 HR264_1 hx263_0 hx263_1 hx264_0 hx264_1 hHeld ⊢
            refine pure_ (i := 0) (N := some 24) (v := ?_) (a' := ?_) #[true, false, false, false, false, false, false, false, false, false, false, false, false, false, false, false, false, false, false, false] rfl rfl (any_of HT_.out (by kernel_rfl)) (fun _ _ _ h => h) (Or.inl ⟨by rfl, ?_⟩) ?_ ?_
            rotate_left
            · intro w'
              go_simp
              with_reducible rfl
            rotate_left
            · simp only [Act.put, List.setIfInBounds_toArray, List.set_cons_zero, List.set_cons_succ, i64_w, i32_w]
              rfl
            refine pure_ (i := 2) (N := some 26) (v := ?_) (a' := ?_) #[true, false, true, false, false, false, false, false, false, false, false, false, false, false, false, false, false, false, false, false] rfl rfl (any_of HT_.out (by kernel_rfl)) (fun _ _ _ h => h) (Or.inl ⟨by rfl, ?_⟩) ?_ ?_
            rotate_left
            · intro w'
              go_simp
              with_reducible rfl
            rotate_left
            · simp only [Act.put, List.setIfInBounds_toArray, List.set_cons_zero, List.set_cons_succ, i64_w, i32_w]
              rfl
            refine pure_ (i := 4) (N := some 28) (v := ?_) (a' := ?_) #[true, false, true, false, true, false, false, false, false, false, false, false, false, false, false, false, false, false, false, false] rfl rfl (any_of HT_.out (by kernel_rfl)) (fun _ _ _ h => h) (Or.inl ⟨by rfl, ?_⟩) ?_ ?_
            rotate_left
            · intro w'
              go_simp
              with_reducible rfl
            rotate_left
            · simp only [Act.put, List.setIfInBounds_toArray, List.set_cons_zero, List.set_cons_succ, i64_w, i32_w]
              rfl
            refine pure_ (i := 8) (N := some 32) (v := ?_) (a' := ?_) #[true, false, true, false, true, false, false, false, true, false, false, false, false, false, false, false, false, false, false, false] rfl rfl (any_of HT_.out (by kernel_rfl)) (fun _ _ _ h => h) (Or.inl ⟨by rfl, ?_⟩) ?_ ?_
            rotate_left
            · intro w'
              go_simp
              with_reducible rfl
            rotate_left
            · simp only [Act.put, List.setIfInBounds_toArray, List.set_cons_zero, List.set_cons_succ, i64_w, i32_w]
              rfl
            refine pure_ (i := 10) (N := some 34) (v := ?_) (a' := ?_) #[true, false, true, false, true, false, false, false, true, false, true, false, false, false, false, false, false, false, false, false] rfl rfl (any_of HT_.out (by kernel_rfl)) (fun _ _ _ h => h) (Or.inl ⟨by rfl, ?_⟩) ?_ ?_
            rotate_left
            · intro w'
              go_simp
              with_reducible rfl
            rotate_left
            · simp only [Act.put, List.setIfInBounds_toArray, List.set_cons_zero, List.set_cons_succ, i64_w, i32_w]
              rfl
            refine take_ (i := 1) (N := some 25) (v := ?_) (a' := ?_) #[true, true, true, false, true, false, false, false, true, false, true, false, false, false, false, false, false, false, false, false] rfl rfl (take_ofW HT_.out HW_.out (by kernel_rfl)) (fun _ _ _ h => h) (Or.inl ⟨by rfl, ?_⟩) hHeld ?_ ?_
            rotate_left
            · rintro w' ⟨s0, s1, s2, s3, s4, s5, s6, s7, s8, s9, s10, s11, s12, s13, s14, s15⟩
              go_simp
              with_reducible rfl
            rotate_left
            · simp only [Act.put, List.setIfInBounds_toArray, List.set_cons_zero, List.set_cons_succ, i64_w, i32_w]
              rfl
            refine take_ (i := 3) (N := some 27) (v := ?_) (a' := ?_) #[true, true, true, true, true, false, false, false, true, false, true, false, false, false, false, false, false, false, false, false] rfl rfl (take_ofW HT_.out HW_.out (by kernel_rfl)) (fun _ _ _ h => h) (Or.inl ⟨by rfl, ?_⟩) hHeld ?_ ?_
            rotate_left
            · rintro w' ⟨s0, s1, s2, s3, s4, s5, s6, s7, s8, s9, s10, s11, s12, s13, s14, s15⟩
              go_simp
              with_reducible rfl
            rotate_left
            · simp only [Act.put, List.setIfInBounds_toArray, List.set_cons_zero, List.set_cons_succ, i64_w, i32_w]
              rfl
            refine pure_ (i := 5) (N := some 29) (v := ?_) (a' := ?_) #[true, true, true, true, true, true, false, false, true, false, true, false, false, false, false, false, false, false, false, false] rfl rfl (any_of HT_.out (by kernel_rfl)) (fun _ _ _ h => h) (Or.inl ⟨by rfl, ?_⟩) ?_ ?_
            rotate_left
            · intro w'
              go_simp
              with_reducible rfl
            rotate_left
            · simp only [Act.put, List.setIfInBounds_toArray, List.set_cons_zero, List.set_cons_succ, i64_w, i32_w]
              rfl
            refine pure_ (i := 6) (N := some 30) (v := ?_) (a' := ?_) #[true, true, true, true, true, true, true, false, true, false, true, false, false, false, false, false, false, false, false, false] rfl rfl (any_of HT_.out (by kernel_rfl)) (fun _ _ _ h => h) (Or.inl ⟨by rfl, ?_⟩) ?_ ?_
            rotate_left
            · intro w'
              go_simp
              with_reducible rfl
            rotate_left
            · simp only [Act.put, List.setIfInBounds_toArray, List.set_cons_zero, List.set_cons_succ, i64_w, i32_w]
              rfl
            refine take_ (i := 7) (N := some 31) (v := ?_) (a' := ?_) #[true, true, true, true, true, true, true, true, true, false, true, false, false, false, false, false, false, false, false, false] rfl rfl (take_ofW HT_.out HW_.out (by kernel_rfl)) (fun _ _ _ h => h) (Or.inl ⟨by rfl, ?_⟩) hHeld ?_ ?_
            rotate_left
            · rintro w' ⟨s0, s1, s2, s3, s4, s5, s6, s7, s8, s9, s10, s11, s12, s13, s14, s15⟩
              go_simp
              with_reducible rfl
            rotate_left
            · simp only [Act.put, List.setIfInBounds_toArray, List.set_cons_zero, List.set_cons_succ, i64_w, i32_w]
              rfl
            refine take_ (i := 9) (N := some 33) (v := ?_) (a' := ?_) #[true, true, true, true, true, true, true, true, true, true, true, false, false, false, false, false, false, false, false, false] rfl rfl (take_ofW HT_.out HW_.out (by kernel_rfl)) (fun _ _ _ h => h) (Or.inl ⟨by rfl, ?_⟩) hHeld ?_ ?_
            rotate_left
            · rintro w' ⟨s0, s1, s2, s3, s4, s5, s6, s7, s8, s9, s10, s11, s12, s13, s14, s15⟩
              go_simp
              with_reducible rfl
            rotate_left
            · simp only [Act.put, List.setIfInBounds_toArray, List.set_cons_zero, List.set_cons_succ, i64_w, i32_w]
              rfl
            refine pure_ (i := 11) (N := some 35) (v := ?_) (a' := ?_) #[true, true, true, true, true, true, true, true, true, true, true, true, false, false, false, false, false, false, false, false] rfl rfl (any_of HT_.out (by kernel_rfl)) (fun _ _ _ h => h) (Or.inl ⟨by rfl, ?_⟩) ?_ ?_
            rotate_left
            · intro w'
              go_simp
              with_reducible rfl
            rotate_left
            · simp only [Act.put, List.setIfInBounds_toArray, List.set_cons_zero, List.set_cons_succ, i64_w, i32_w]
              rfl
            refine pure_ (i := 12) (N := some 36) (v := ?_) (a' := ?_) #[true, true, true, true, true, true, true, true, true, true, true, true, true, false, false, false, false, false, false, false] rfl rfl (any_of HT_.out (by kernel_rfl)) (fun _ _ _ h => h) (Or.inl ⟨by rfl, ?_⟩) ?_ ?_
            rotate_left
            · intro w'
              go_simp
              with_reducible rfl
            rotate_left
            · simp only [Act.put, List.setIfInBounds_toArray, List.set_cons_zero, List.set_cons_succ, i64_w, i32_w]
              rfl
            refine take_ (i := 13) (N := some 37) (v := ?_) (a' := ?_) #[true, true, true, true, true, true, true, true, true, true, true, true, true, true, false, false, false, false, false, false] rfl rfl (take_ofW HT_.out HW_.out (by kernel_rfl)) (fun _ _ _ h => h) (Or.inl ⟨by rfl, ?_⟩) hHeld ?_ ?_
            rotate_left
            · rintro w' ⟨s0, s1, s2, s3, s4, s5, s6, s7, s8, s9, s10, s11, s12, s13, s14, s15⟩
              go_simp
              with_reducible rfl
            rotate_left
            · simp only [Act.put, List.setIfInBounds_toArray, List.set_cons_zero, List.set_cons_succ, i64_w, i32_w]
              rfl
            refine one_ (i := 14) (N := some 38) #[true, true, true, true, true, true, true, true, true, true, true, true, true, true, true, false, false, false, false, false] rfl rfl (one_of HT_.out (by kernel_rfl)) (by decide) (fun K hK => ?_)
            refine goes_ Tryd.func71 (by kernel_rfl) rfl #[.slice A263_1 ((rd_T109 l0_5 x4_1).f1).length c263_1] (by rfl) rfl rfl (by (try simp only [List.map_toArray, List.map_cons, List.map_nil]); first | done | rfl | (simp only [List.length_drop, List.length_take]; rfl)) ?_
            with_reducible refine (dobbylaw14_backList.calls k1 _ _ ((rd_T109 l0_5 x4_1).f1) t265 _ ?side1 ?side2 A19.out).mono ?_
            (case side1 => repeat (first | exact (Kd.C_below HR264_1.out HB.out) | (with_reducible refine Kd.C_alloc ?_ _) | (with_reducible refine Kd.C_drewN ?_ _) | (with_reducible refine Kd.C_drew ?_)))
            (case side2 => exact HC264_1.out)
            rintro e w25 ⟨v266, rfl, ho0, hb⟩
            refine ⟨_, rfl, ?_⟩
            have n0_ := Aside0.mk (Kd.R_elder' (by (with_reducible repeat (first | apply Kd.R_alloc | apply Kd.R_drewN | apply Kd.R_drew)); exact HO_263004.out) (Kd.R_base ho0) hb)
            have n1_ := Aside0.mk (Kd.S_elder' (by (with_reducible repeat (first | apply Kd.S_alloc | apply Kd.S_drewN | apply Kd.S_drew)); exact HO_263005.out) (Kd.R_base ho0) hb)
            have n2_ := Aside0.mk (Kd.R_lower (Kd.R_new' ho0 (Kd.R_lt (by (with_reducible repeat (first | apply Kd.R_alloc | apply Kd.R_drewN | apply Kd.R_drew)); exact HO_263004.out))) (below_size (by repeat (first | (with_reducible first | exact HB.out | apply below_alloc | apply pw_below_drewN | apply below_drew1 | refine below_set ?_ GE257.out | refine below_set ?_ GE258.out | refine below_set ?_ GE262.out) | exact HB.out))))
            have n3_ := Aside0.mk (blk_below (g := gb257) (o := .cells #[.bool a0_0, .bool a0_1, .bool a0_2, .string a0_3, .slice A0_4 l0_4.length c0_4, .slice (some ad263) l0_5.length c0_5] 33 (0, 0)) (by (with_reducible repeat (first | refine blk_drewN ?_ _ | refine blk_drew ?_ | refine blk_alloc ?_ _)); exact BK257.out) hb)
            have n4_ := Aside0.mk (blk_below (g := gb258) (o := .cells #[.bool false, .bool false, .bool false, .string (⟨#[]⟩ : ByteArray), .slice none 0 0, .slice none 0 0] 25 (0, 0)) (by (with_reducible repeat (first | refine blk_drewN ?_ _ | refine blk_drew ?_ | refine blk_alloc ?_ _)); exact BK258.out) hb)
            have n5_ := Aside0.mk (blk_below (g := gb262) (o := .cells #[.bool a0_0, .bool a0_1, .bool a0_2, .string a0_3, .slice Ao10 t259.length co10, u263005] 25 (0, 0)) (by (with_reducible repeat (first | refine blk_drewN ?_ _ | refine blk_drew ?_ | refine blk_alloc ?_ _)); exact BK262.out) hb)
            have n6_ := Aside0.mk (below_step (by repeat (first | (with_reducible first | exact HB.out | apply below_alloc | apply pw_below_drewN | apply below_drew1 | refine below_set ?_ GE257.out | refine below_set ?_ GE258.out | refine below_set ?_ GE262.out) | exact HB.out)) hb)
            clear HO_263004
            clear HO_263005
            clear BK257
            clear BK258
            clear BK262
            clear HB
            have HO_263004 := n0_
            have HO_263005 := n1_
            have HO267 := n2_
            have BK257 := n3_
            have BK258 := n4_
            have BK262 := n5_
            have HB := n6_
            clear n0_ n1_ n2_ n3_ n4_ n5_ n6_
            (try clear hb)
            (try clear hb2)
            (try clear hk)
            (try clear hi)
            (try clear ho0)
            obtain ⟨Ao26, co26, eo26⟩ := Kd.R_slice HO267.out
            (first | subst eo26 | (injection eo26 with f1_ f2_ f3_; have f4_ := f1_.symm; have f5_ := f3_.symm; clear f1_ f2_ f3_; subst f4_; subst f5_))
            refine hK.out _ _ ⟨(blk_cell BK262.out 0).trans rfl, (blk_cell BK262.out 1).trans rfl, (blk_cell BK262.out 2).trans rfl, (blk_cell BK262.out 3).trans rfl, (blk_cell BK262.out 4).trans rfl, (blk_cell BK262.out 5).trans rfl, (blk_cell BK257.out 0).trans rfl, (blk_cell BK257.out 1).trans rfl, (blk_cell BK257.out 2).trans rfl, (blk_cell BK257.out 3).trans rfl, (blk_cell BK257.out 4).trans rfl, (blk_cell BK257.out 5).trans rfl, ((HB.out.cell (World.block_lt_of_cell? w _ hw263_0)).trans hw263_0), ((HB.out.cell (World.block_lt_of_cell? w _ hw263_1)).trans hw263_1), ((HB.out.cell (World.block_lt_of_cell? w _ hw264_0)).trans hw264_0), ((HB.out.cell (World.block_lt_of_cell? w _ hw264_1)).trans hw264_1)⟩ (fun hHeld => ?_)
            clear hK K
            refine norm_ (a' := ?_) ?_ ?_
            rotate_left
            · show Act.put _ (some 38) _ = _
              simp only [Act.put, List.setIfInBounds_toArray, List.set_cons_zero, List.set_cons_succ, i64_w, i32_w]
              rfl
            refine pure_ (i := 15) (N := some 39) (v := ?_) (a' := ?_) #[true, true, true, true, true, true, true, true, true, true, true, true, true, true, true, true, false, false, false, false] rfl rfl (any_of HT_.out (by kernel_rfl)) (fun _ _ _ h => h) (Or.inl ⟨by rfl, ?_⟩) ?_ ?_
            rotate_left
            · intro w'
              go_simp
              with_reducible rfl
            rotate_left
            · simp only [Act.put, List.setIfInBounds_toArray, List.set_cons_zero, List.set_cons_succ, i64_w, i32_w]
              rfl
            refine one_ (i := 16) (N := some 40) #[true, true, true, true, true, true, true, true, true, true, true, true, true, true, true, true, true, false, false, false] rfl rfl (one_of HT_.out (by kernel_rfl)) (by decide) (fun K hK => ?_)
            refine value_ (w1 := ?_) (v := ?_) (by rfl) rfl ?_ ?_
            rotate_left 2
            · go_simp
              constructor
              · rfl
              · rfl
            refine hK.out _ _ ⟨(blk_cell (blk_alloc BK262.out _) 0).trans rfl, (blk_cell (blk_alloc BK262.out _) 1).trans rfl, (blk_cell (blk_alloc BK262.out _) 2).trans rfl, (blk_cell (blk_alloc BK262.out _) 3).trans rfl, (blk_cell (blk_alloc BK262.out _) 4).trans rfl, (blk_cell (blk_alloc BK262.out _) 5).trans rfl, (blk_cell (blk_alloc BK257.out _) 0).trans rfl, (blk_cell (blk_alloc BK257.out _) 1).trans rfl, (blk_cell (blk_alloc BK257.out _) 2).trans rfl, (blk_cell (blk_alloc BK257.out _) 3).trans rfl, (blk_cell (blk_alloc BK257.out _) 4).trans rfl, (blk_cell (blk_alloc BK257.out _) 5).trans rfl, (World.cell?_alloc_lt _ _ _ (World.block_lt_of_cell? _ _ (((HB.out.cell (World.block_lt_of_cell? w _ hw263_0)).trans hw263_0)))).trans (((HB.out.cell (World.block_lt_of_cell? w _ hw263_0)).trans hw263_0)), (World.cell?_alloc_lt _ _ _ (World.block_lt_of_cell? _ _ (((HB.out.cell (World.block_lt_of_cell? w _ hw263_1)).trans hw263_1)))).trans (((HB.out.cell (World.block_lt_of_cell? w _ hw263_1)).trans hw263_1)), (World.cell?_alloc_lt _ _ _ (World.block_lt_of_cell? _ _ (((HB.out.cell (World.block_lt_of_cell? w _ hw264_0)).trans hw264_0)))).trans (((HB.out.cell (World.block_lt_of_cell? w _ hw264_0)).trans hw264_0)), (World.cell?_alloc_lt _ _ _ (World.block_lt_of_cell? _ _ (((HB.out.cell (World.block_lt_of_cell? w _ hw264_1)).trans hw264_1)))).trans (((HB.out.cell (World.block_lt_of_cell? w _ hw264_1)).trans hw264_1))⟩ (fun hHeld => ?_)
            clear hK K
            refine norm_ (a' := ?_) ?_ ?_
            rotate_left
            · show Act.put _ (some 40) _ = _
              simp only [Act.put, List.setIfInBounds_toArray, List.set_cons_zero, List.set_cons_succ, i64_w, i32_w]
              rfl
            refine one_ (i := 17) (N := some 41) #[true, true, true, true, true, true, true, true, true, true, true, true, true, true, true, true, true, true, false, false] rfl rfl (one_of HT_.out (by kernel_rfl)) (by decide) (fun K hK => ?_)
            refine Kd.S_append_step k103 (w0 := w) w.heap.size (by rfl) (.tmp 25) (.tmp 40) 23 103 (.agg #[(.int .u32 0), (.slice none 0 0)]) 32 rfl Tryd.underlying23 info103 rfl (by decide) (by omega) u263005 x263005_1 (⟨(rd_T109 l0_5 x4_1).f0, t265⟩ : S103) [.int .u32 ((rd_T109 l0_5 x4_1).f0), .slice Ao26 t265.length co26] (fun k_ => some k_ ≠ (.slice Ao10 t259.length co10 : Value).ownBlock) (fun k_ => some k_ = (.slice Ao26 t265.length co26 : Value).ownBlock) rfl rfl ?aP (fun k_ hk_ => ((Kd.R_mono (ok' := fun k_ => ((fun k_ => some k_ ≠ (.slice Ao10 t259.length co10 : Value).ownBlock)) k_ ∧ some k_ ≠ (u263005 : Value).ownBlock) (Kd.R_apart' (HO267.out) (Kd.S_typed HO_263005.out) (by decide)) (fun k_ hk => ⟨hk.1.2, hk.2⟩))).1 k_ hk_.symm) ?aF ?aO ?aB ?aS ?aL ?_
            (case aP => exact k103_mkM _ _ _ (⟨(rd_T109 l0_5 x4_1).f0, t265⟩ : S103) (Kd.R_mono (Kd.R_tight rfl (Kd.R_mono (ok' := fun k_ => ((fun k_ => some k_ ≠ (.slice Ao10 t259.length co10 : Value).ownBlock)) k_ ∧ some k_ ≠ (u263005 : Value).ownBlock) (Kd.R_apart' (HO267.out) (Kd.S_typed HO_263005.out) (by decide)) (fun k_ hk => ⟨hk.1.2, hk.2⟩))) (fun _ h_ => h_)))
            (case aB => exact (by repeat (first | (with_reducible first | exact HB.out | apply below_alloc | apply pw_below_drewN | apply below_drew1 | refine below_set ?_ GE257.out | refine below_set ?_ GE258.out | refine below_set ?_ GE262.out) | exact HB.out)))
            (case aF => exact (fun k_ hk => Kd.fresh' (Kd.R_lt (by (with_reducible repeat (first | apply Kd.R_alloc | apply Kd.R_drewN | apply Kd.R_drew)); exact HO_263004.out)) k_ hk))
            (case aO => exact (by (with_reducible repeat (first | apply Kd.S_alloc | apply Kd.S_drewN | apply Kd.S_drew)); exact Kd.S_mono HO_263005.out (fun k_ hk => ⟨hk.1, fun e_ => hk.2 e_⟩)))
            (case aS => exact (below_size (by repeat (first | (with_reducible first | exact HB.out | apply below_alloc | apply pw_below_drewN | apply below_drew1 | refine below_set ?_ GE257.out | refine below_set ?_ GE258.out | refine below_set ?_ GE262.out) | exact HB.out))))
            (case aL => have := LMc20.out; omega)
            intro v269 w27 ho hb hg hat
            rw [← Ny268.out] at ho
            have n0_ := Aside0.mk (Kd.R_over' (by (with_reducible repeat (first | apply Kd.R_alloc | apply Kd.R_drewN | apply Kd.R_drew)); exact HO_263004.out) (Kd.S_typed (by (with_reducible repeat (first | apply Kd.S_alloc | apply Kd.S_drewN | apply Kd.S_drew)); exact HO_263005.out)) (by decide) hg)
            have n1_ := Aside0.mk (blk_grown (g := gb257) (o := .cells #[.bool a0_0, .bool a0_1, .bool a0_2, .string a0_3, .slice A0_4 l0_4.length c0_4, .slice (some ad263) l0_5.length c0_5] 33 (0, 0)) (by (with_reducible repeat (first | refine blk_drewN ?_ _ | refine blk_drew ?_ | refine blk_alloc ?_ _)); exact BK257.out) hg (Kd.S_ne HO_263005.out BK257.out (by decide)))
            have n2_ := Aside0.mk (blk_grown (g := gb258) (o := .cells #[.bool false, .bool false, .bool false, .string (⟨#[]⟩ : ByteArray), .slice none 0 0, .slice none 0 0] 25 (0, 0)) (by (with_reducible repeat (first | refine blk_drewN ?_ _ | refine blk_drew ?_ | refine blk_alloc ?_ _)); exact BK258.out) hg (Kd.S_ne HO_263005.out BK258.out (by decide)))
            have n3_ := Aside0.mk (blk_grown (g := gb262) (o := .cells #[.bool a0_0, .bool a0_1, .bool a0_2, .string a0_3, .slice Ao10 t259.length co10, u263005] 25 (0, 0)) (by (with_reducible repeat (first | refine blk_drewN ?_ _ | refine blk_drew ?_ | refine blk_alloc ?_ _)); exact BK262.out) hg (Kd.S_ne HO_263005.out BK262.out (by decide)))
            have n4_ := Aside0.mk (hb)
            have n5_ := Aside0.mk (ho)
            clear HO_263004
            clear BK257
            clear BK258
            clear BK262
            clear HB
            clear HO_263005
            clear HO267
            have HO_263004 := n0_
            have BK257 := n1_
            have BK258 := n2_
            have BK262 := n3_
            have HB := n4_
            have HO270 := n5_
            clear n0_ n1_ n2_ n3_ n4_ n5_
            clear ho hb hg hat
            obtain ⟨Ao28, co28, eo28⟩ := Kd.S_slice HO270.out
            (first | subst eo28 | (injection eo28 with f1_ f2_ f3_; have f4_ := f1_.symm; have f5_ := f3_.symm; clear f1_ f2_ f3_; subst f4_; subst f5_))
            refine hK.out _ _ ⟨(blk_cell BK262.out 0).trans rfl, (blk_cell BK262.out 1).trans rfl, (blk_cell BK262.out 2).trans rfl, (blk_cell BK262.out 3).trans rfl, (blk_cell BK262.out 4).trans rfl, (blk_cell BK262.out 5).trans rfl, (blk_cell BK257.out 0).trans rfl, (blk_cell BK257.out 1).trans rfl, (blk_cell BK257.out 2).trans rfl, (blk_cell BK257.out 3).trans rfl, (blk_cell BK257.out 4).trans rfl, (blk_cell BK257.out 5).trans rfl, ((HB.out.cell (World.block_lt_of_cell? w _ hw263_0)).trans hw263_0), ((HB.out.cell (World.block_lt_of_cell? w _ hw263_1)).trans hw263_1), ((HB.out.cell (World.block_lt_of_cell? w _ hw264_0)).trans hw264_0), ((HB.out.cell (World.block_lt_of_cell? w _ hw264_1)).trans hw264_1)⟩ (fun hHeld => ?_)
            clear hK K
            refine norm_ (a' := ?_) ?_ ?_
            rotate_left
            · show Act.put _ (some 41) _ = _
              simp only [Act.put, List.setIfInBounds_toArray, List.set_cons_zero, List.set_cons_succ, i64_w, i32_w]
              rfl
            refine pure_ (i := 18) (N := some 42) (v := ?_) (a' := ?_) #[true, true, true, true, true, true, true, true, true, true, true, true, true, true, true, true, true, true, true, false] rfl rfl (any_of HT_.out (by kernel_rfl)) (fun _ _ _ h => h) (Or.inl ⟨by rfl, ?_⟩) ?_ ?_
            rotate_left
            · intro w'
              go_simp
              with_reducible rfl
            rotate_left
            · simp only [Act.put, List.setIfInBounds_toArray, List.set_cons_zero, List.set_cons_succ, i64_w, i32_w]
              rfl
            refine last_ (i := 19) (N := none) #[true, true, true, true, true, true, true, true, true, true, true, true, true, true, true, true, true, true, true, true] rfl rfl (one_of HT_.out (by kernel_rfl)) (by decide) (fun K hK => ?_)
            have hs29 : w27.cell? ⟨gb262, 5, none⟩ = some (u263005) := (blk_cell BK262.out 5).trans rfl
            have hfs29 := blk_frozen BK262.out 5
            have hns29_0 := NB257_262.out
            have hns29_1 := NB258_262.out
            have hms29_0 := NB262_257.out
            have hms29_1 := NB262_258.out
            refine skip_ (w1 := ?_) (by rfl) rfl ?_ ?_
            rotate_left
            · go_simp
              rfl
            refine hK.out _ _ ?_
            clear hK K
            refine done_ (done_of HT_.out (by kernel_rfl)) ?_
            try go_wp2
            go_roundg k1
            case measure => have := HK1.out; omega
            case rel => exact ⟨(wrap64 (x4_1 + 1)), (y268), (.slice Ao28 y268.length co28), (by first | rfl | (simp; done) | (simp [*]; done)), H', ⟨by have := HK1.out; omega⟩, ⟨by (with_reducible repeat (first | apply Kd.R_alloc | apply Kd.R_drewN | apply Kd.R_drew)); exact Kd.R_mono (Kd.R_far (p := ⟨gb262, 5, none⟩) (Kd.R_types HO_263004.out BK262.out (by decide)) (fun _ hk => hk.2) (.slice Ao28 y268.length co28)) (fun _ hk => trivial)⟩, ⟨by (with_reducible repeat (first | apply Kd.S_alloc | apply Kd.S_drewN | apply Kd.S_drew)); exact Kd.S_mono (Kd.S_far (p := ⟨gb262, 5, none⟩) (Kd.S_types HO270.out BK262.out (by decide)) (fun _ hk => hk.2) (.slice Ao28 y268.length co28)) (fun _ hk => hk.1)⟩, ⟨by (with_reducible repeat (first | refine blk_drewN ?_ _ | refine blk_drew ?_ | refine blk_alloc ?_ _)); refine blk_far ?_ NB257_262.out _; (with_reducible repeat (first | refine blk_drewN ?_ _ | refine blk_drew ?_ | refine blk_alloc ?_ _)); exact BK257.out⟩, ⟨by (with_reducible repeat (first | refine blk_drewN ?_ _ | refine blk_drew ?_ | refine blk_alloc ?_ _)); refine blk_far ?_ NB258_262.out _; (with_reducible repeat (first | refine blk_drewN ?_ _ | refine blk_drew ?_ | refine blk_alloc ?_ _)); exact BK258.out⟩, ⟨by (with_reducible repeat (first | refine blk_drewN ?_ _ | refine blk_drew ?_ | refine blk_alloc ?_ _)); refine blk_put (cs := #[.bool a0_0, .bool a0_1, .bool a0_2, .string a0_3, .slice Ao10 t259.length co10, u263005]) ?_ 5 _ rfl; (with_reducible repeat (first | refine blk_drewN ?_ _ | refine blk_drew ?_ | refine blk_alloc ?_ _)); exact BK262.out⟩, ⟨by repeat (first | (with_reducible first | exact HB.out | apply below_alloc | apply pw_below_drewN | apply below_drew1 | refine below_set ?_ GE257.out | refine below_set ?_ GE258.out | refine below_set ?_ GE262.out) | exact HB.out)⟩⟩
          · rw [if_neg c20] at H
            exact absurd H (by simp)
        · rw [if_neg c18] at H
          exact absurd H (by simp)
      · rw [if_neg c17] at H
        have c17b0 : decide (x4_1 < (l0_5.length : Int)) = false := decide_eq_false c17
        clear c17
        simp only [Option.some.injEq, Prod.mk.injEq] at H
        obtain ⟨rfl, rfl, rfl, rfl, rfl, rfl⟩ := H
        have hnb30 := NB257_258.out
        have hnc30 := NB258_257.out
        have hnb31 := NB257_262.out
        have hnc31 := NB262_257.out
        have hcz32_0 : wr.cell? ⟨gb257, 0, none⟩ = some (.bool a0_0) := (blk_cell BK257.out 0).trans rfl
        have hcz32_1 : wr.cell? ⟨gb257, 1, none⟩ = some (.bool a0_1) := (blk_cell BK257.out 1).trans rfl
        have hcz32_2 : wr.cell? ⟨gb257, 2, none⟩ = some (.bool a0_2) := (blk_cell BK257.out 2).trans rfl
        have hcz32_3 : wr.cell? ⟨gb257, 3, none⟩ = some (.string a0_3) := (blk_cell BK257.out 3).trans rfl
        have hcz32_4 : wr.cell? ⟨gb257, 4, none⟩ = some (.slice A0_4 l0_4.length c0_4) := (blk_cell BK257.out 4).trans rfl
        have hcz32_5 : wr.cell? ⟨gb257, 5, none⟩ = some (.slice A0_5 l0_5.length c0_5) := (blk_cell BK257.out 5).trans rfl
        have hfz32_0 := blk_frozen BK257.out 0
        have hfz32_1 := blk_frozen BK257.out 1
        have hfz32_2 := blk_frozen BK257.out 2
        have hfz32_3 := blk_frozen BK257.out 3
        have hfz32_4 := blk_frozen BK257.out 4
        have hfz32_5 := blk_frozen BK257.out 5
        have hnb33 := NB262_258.out
        have hnc33 := NB258_262.out
        have hcz34_0 : wr.cell? ⟨gb262, 0, none⟩ = some (.bool a0_0) := (blk_cell BK262.out 0).trans rfl
        have hcz34_1 : wr.cell? ⟨gb262, 1, none⟩ = some (.bool a0_1) := (blk_cell BK262.out 1).trans rfl
        have hcz34_2 : wr.cell? ⟨gb262, 2, none⟩ = some (.bool a0_2) := (blk_cell BK262.out 2).trans rfl
        have hcz34_3 : wr.cell? ⟨gb262, 3, none⟩ = some (.string a0_3) := (blk_cell BK262.out 3).trans rfl
        have hcz34_4 : wr.cell? ⟨gb262, 4, none⟩ = some (.slice Ao10 t259.length co10) := (blk_cell BK262.out 4).trans rfl
        have hcz34_5 : wr.cell? ⟨gb262, 5, none⟩ = some (u263005) := (blk_cell BK262.out 5).trans rfl
        have hfz34_0 := blk_frozen BK262.out 0
        have hfz34_1 := blk_frozen BK262.out 1
        have hfz34_2 := blk_frozen BK262.out 2
        have hfz34_3 := blk_frozen BK262.out 3
        have hfz34_4 := blk_frozen BK262.out 4
        have hfz34_5 := blk_frozen BK262.out 5
        have hcz35_0 : wr.cell? ⟨gb258, 0, none⟩ = some (.bool false) := (blk_cell BK258.out 0).trans rfl
        have hcz35_1 : wr.cell? ⟨gb258, 1, none⟩ = some (.bool false) := (blk_cell BK258.out 1).trans rfl
        have hcz35_2 : wr.cell? ⟨gb258, 2, none⟩ = some (.bool false) := (blk_cell BK258.out 2).trans rfl
        have hcz35_3 : wr.cell? ⟨gb258, 3, none⟩ = some (.string (⟨#[]⟩ : ByteArray)) := (blk_cell BK258.out 3).trans rfl
        have hcz35_4 : wr.cell? ⟨gb258, 4, none⟩ = some (.slice none 0 0) := (blk_cell BK258.out 4).trans rfl
        have hcz35_5 : wr.cell? ⟨gb258, 5, none⟩ = some (.slice none 0 0) := (blk_cell BK258.out 5).trans rfl
        have hfz35_0 := blk_frozen BK258.out 0
        have hfz35_1 := blk_frozen BK258.out 1
        have hfz35_2 := blk_frozen BK258.out 2
        have hfz35_3 := blk_frozen BK258.out 3
        have hfz35_4 := blk_frozen BK258.out 4
        have hfz35_5 := blk_frozen BK258.out 5
        obtain ⟨Ao36, co36, eo36⟩ := Kd.S_slice HO_263005.out
        subst eo36
        go_wp2
        refine bodyPost_ret (results_cell_row rfl _ _ gb258 25 #[.bool a0_0, .bool a0_1, .bool a0_2, .string a0_3, .slice Ao10 t259.length co10, .slice Ao36 x263005_1.length co36] (0, 0) _ rfl (by (with_reducible repeat (first | refine blk_drewN ?_ _ | refine blk_drew ?_ | refine blk_alloc ?_ _)); refine blk_put (cs := #[.bool a0_0, .bool a0_1, .bool a0_2, .string a0_3, .slice Ao10 t259.length co10, .slice none 0 0]) ?_ 5 _ rfl; (with_reducible repeat (first | refine blk_drewN ?_ _ | refine blk_drew ?_ | refine blk_alloc ?_ _)); refine blk_put (cs := #[.bool a0_0, .bool a0_1, .bool a0_2, .string a0_3, .slice none 0 0, .slice none 0 0]) ?_ 4 _ rfl; (with_reducible repeat (first | refine blk_drewN ?_ _ | refine blk_drew ?_ | refine blk_alloc ?_ _)); refine blk_put (cs := #[.bool a0_0, .bool a0_1, .bool a0_2, .string (⟨#[]⟩ : ByteArray), .slice none 0 0, .slice none 0 0]) ?_ 3 _ rfl; (with_reducible repeat (first | refine blk_drewN ?_ _ | refine blk_drew ?_ | refine blk_alloc ?_ _)); refine blk_put (cs := #[.bool a0_0, .bool a0_1, .bool false, .string (⟨#[]⟩ : ByteArray), .slice none 0 0, .slice none 0 0]) ?_ 2 _ rfl; (with_reducible repeat (first | refine blk_drewN ?_ _ | refine blk_drew ?_ | refine blk_alloc ?_ _)); refine blk_put (cs := #[.bool a0_0, .bool false, .bool false, .string (⟨#[]⟩ : ByteArray), .slice none 0 0, .slice none 0 0]) ?_ 1 _ rfl; (with_reducible repeat (first | refine blk_drewN ?_ _ | refine blk_drew ?_ | refine blk_alloc ?_ _)); refine blk_put (cs := #[.bool false, .bool false, .bool false, .string (⟨#[]⟩ : ByteArray), .slice none 0 0, .slice none 0 0]) ?_ 0 _ rfl; (with_reducible repeat (first | refine blk_drewN ?_ _ | refine blk_drew ?_ | refine blk_alloc ?_ _)); exact BK258.out) Tryd.underlying25 rfl (by kernel_rfl)) rfl ?_
        exact ⟨_, _, by first | rfl | (simp [errW_none, errW_some] <;> rfl) | (simp [*, errW_none, errW_some] <;> rfl), by (with_reducible repeat (first | apply Kd.R_alloc | apply Kd.R_drewN | apply Kd.R_drew)); exact Kd.R_mono (Kd.R_far (p := ⟨gb258, 5, none⟩) (Kd.R_far (p := ⟨gb258, 4, none⟩) (Kd.R_far (p := ⟨gb258, 3, none⟩) (Kd.R_far (p := ⟨gb258, 2, none⟩) (Kd.R_far (p := ⟨gb258, 1, none⟩) (Kd.R_far (p := ⟨gb258, 0, none⟩) (Kd.R_types HO_263004.out BK258.out (by decide)) (fun _ hk => hk.2) (.bool a0_0)) (fun _ hk => hk.2) (.bool a0_1)) (fun _ hk => hk.2) (.bool a0_2)) (fun _ hk => hk.2) (.string a0_3)) (fun _ hk => hk.2) (.slice Ao10 t259.length co10)) (fun _ hk => hk.2) (.slice Ao36 x263005_1.length co36)) (fun _ hk => trivial), by (with_reducible repeat (first | apply Kd.S_alloc | apply Kd.S_drewN | apply Kd.S_drew)); exact Kd.S_mono (Kd.S_far (p := ⟨gb258, 5, none⟩) (Kd.S_far (p := ⟨gb258, 4, none⟩) (Kd.S_far (p := ⟨gb258, 3, none⟩) (Kd.S_far (p := ⟨gb258, 2, none⟩) (Kd.S_far (p := ⟨gb258, 1, none⟩) (Kd.S_far (p := ⟨gb258, 0, none⟩) (Kd.S_types HO_263005.out BK258.out (by decide)) (fun _ hk => hk.2) (.bool a0_0)) (fun _ hk => hk.2) (.bool a0_1)) (fun _ hk => hk.2) (.bool a0_2)) (fun _ hk => hk.2) (.string a0_3)) (fun _ hk => hk.2) (.slice Ao10 t259.length co10)) (fun _ hk => hk.2) (.slice Ao36 x263005_1.length co36)) (fun _ hk => hk.1), by repeat (first | (with_reducible first | exact HB.out | apply below_alloc | apply pw_below_drewN | apply below_drew1 | refine below_set ?_ GE257.out | refine below_set ?_ GE258.out | refine below_set ?_ GE262.out) | exact HB.out)⟩
end Go.Proofs.YtiohiiekaofkbaaDoor.PNamesBack
/- Back: the program's names, as the document's. -/
namespace Go.Proofs.YtiohiiekaofkbaaDoor
set_option linter.unusedVariables false
set_option linter.unusedSimpArgs false
open Go.RowKit Go.Proofs.YtiohiiekaofkbaaDoor.PNamesBack Go.Proofs.YtiohiiekaofkbaaDoorW.PrintWords
def frN (x : S121) : S101 := ⟨x.f0, x.f1⟩
def frL (x : S109) : S103 := ⟨x.f0, x.f1.map frN⟩
def Ns.back (x : Ns) : rNs := ⟨x.hm, x.hf, x.hl, x.md, x.fs.map frN, x.ls.map frL⟩
theorem frN_toN (l : List S101) : (l.map toN).map frN = l := by rw [List.map_map]; exact (List.map_congr_left (fun x _ => rfl)).trans (List.map_id l)
theorem frL_toL (l : List S103) : (l.map toL).map frL = l := by
  rw [List.map_map]
  refine (List.map_congr_left (fun x _ => ?_)).trans (List.map_id l)
  show (⟨x.f0, (x.f1.map toN).map frN⟩ : S103) = x
  rw [frN_toN]
theorem own_back (x : rNs) : x.own.back = x := by
  show (⟨x.hm, x.hf, x.hl, x.md, (x.fs.map toN).map frN, (x.ls.map toL).map frL⟩ : rNs) = x
  rw [frN_toN, frL_toL]
theorem backList_loop (l : List S121) (hl : l.length ≤ 3000) (d : Nat) : ∀ (i k : Nat), i + d = l.length → d < k → dobbylaw14_backList.l0 k l ((l.take i).map frN) i = some (l.map frN) := by
  induction d with
  | zero =>
    intro i k hi hk
    obtain ⟨k, rfl⟩ : ∃ m, k = m + 1 := ⟨k - 1, by omega⟩
    simp only [dobbylaw14_backList.l0]
    rw [if_neg (by omega), List.take_of_length_le (by omega)]
  | succ d ih =>
    intro i k hi hk
    obtain ⟨k, rfl⟩ : ∃ m, k = m + 1 := ⟨k - 1, by omega⟩
    simp only [dobbylaw14_backList.l0]
    rw [if_pos (by omega), if_pos (by omega), if_pos (by rw [List.length_map, List.length_take]; omega), show wrap64 ((i : Int) + 1) = ((i + 1 : Nat) : Int) by unfold wrap64; omega]
    have : (l.take i).map frN ++ [(⟨(rd_T121 l i).f0, (rd_T121 l i).f1⟩ : S101)] = (l.take (i + 1)).map frN := by
      rw [List.take_succ_eq_append_getElem (by omega), List.map_append, rd_Name l i (by omega)]; rfl
    rw [this]
    exact ih (i + 1) k (by omega) (by omega)
theorem backList_some (l : List S121) (hl : l.length ≤ 3000) {k : Nat} (hk : l.length < k) : dobbylaw14_backList.f k l = some (l.map frN) := by
  have := backList_loop l hl l.length 0 k (by omega) hk
  exact this
theorem back_loop (b1 b2 b3 : Bool) (md : ByteArray) (fs : List S121) (ls : List S109) (hl : ls.length ≤ 3000) (hn : ∀ i : Nat, i < ls.length → (rd_T109 ls i).f1.length ≤ 3000) (ff : List S101) (d : Nat) : ∀ (i k : Nat), i + d = ls.length → d + 3001 < k →
    dobbylaw14_Back.l0 k i b1 b2 b3 md fs ls b1 b2 b3 md ff ((ls.take i).map frL) = some (b1, b2, b3, md, ff, ls.map frL) := by
  induction d with
  | zero =>
    intro i k hi hk
    obtain ⟨k, rfl⟩ : ∃ m, k = m + 1 := ⟨k - 1, by omega⟩
    simp only [dobbylaw14_Back.l0]
    rw [if_neg (by omega), List.take_of_length_le (by omega)]
  | succ d ih =>
    intro i k hi hk
    obtain ⟨k, rfl⟩ : ∃ m, k = m + 1 := ⟨k - 1, by omega⟩
    have := hn i (by omega)
    simp only [dobbylaw14_Back.l0]
    rw [if_pos (by omega), if_pos (by omega), backList_some _ this (by omega), Option.bind_some, if_pos (by rw [List.length_map, List.length_take]; omega), show wrap64 ((i : Int) + 1) = ((i + 1 : Nat) : Int) by unfold wrap64; omega]
    have : (ls.take i).map frL ++ [(⟨(rd_T109 ls i).f0, (rd_T109 ls i).f1.map frN⟩ : S103)] = (ls.take (i + 1)).map frL := by
      rw [List.take_succ_eq_append_getElem (by omega), List.map_append, rd_Local ls i (by omega)]; rfl
    rw [this]
    exact ih (i + 1) k (by omega) (by omega)
def Ns.some3 (x : Ns) : Prop := x.fs.length ≤ 3000 ∧ x.ls.length ≤ 3000 ∧ ∀ i : Nat, i < x.ls.length → (rd_T109 x.ls i).f1.length ≤ 3000
theorem back_some (x : Ns) (h : x.some3) : dobbylaw14_Back.f 6010 x.hm x.hf x.hl x.md x.fs x.ls = some (x.back.hm, x.back.hf, x.back.hl, x.back.md, x.back.fs, x.back.ls) := by
  obtain ⟨h1, h2, h3⟩ := h
  unfold dobbylaw14_Back.f
  rw [backList_some _ h1 (by omega), Option.bind_some]
  have := back_loop x.hm x.hf x.hl x.md x.fs x.ls h2 h3 (x.fs.map frN) x.ls.length 0 6010 (by omega) (by omega)
  exact this
theorem back_walk (x : Ns) (A : Option Addr) (c : Nat) (B : Option Addr) (d : Nat) (w : World) (hx : x.at A c B d w) (h : x.some3) :
    Calls Tryd.prog 14 #[.agg #[.bool x.hm, .bool x.hf, .bool x.hl, .string x.md, .slice A x.fs.length c, .slice B x.ls.length d]] w fun e w' => ∃ A' c' B' d', e = .returned (.agg #[.bool x.back.hm, .bool x.back.hf, .bool x.back.hl, .string x.back.md, .slice A' x.back.fs.length c', .slice B' x.back.ls.length d']) ∧ x.back.at A' c' B' d' w' ∧ Below w.heap.size w w' := by
  refine (dobbylaw14_Back.calls 6010 x.hm x.hf x.hl x.md A c x.fs B d x.ls _ _ _ _ _ _ w hx.1 hx.2.1 hx.2.2.1 hx.2.2.2 (back_some x h)).mono ?_
  rintro e w' ⟨v4, v5, rfl, r4, r5, hb⟩
  obtain ⟨A', c', rfl, l4, q4⟩ := Kd.R_reads r4
  obtain ⟨B', d', rfl, l5, q5⟩ := Kd.S_reads r5
  exact ⟨A', c', B', d', rfl, ⟨q4, l4, q5, l5⟩, hb⟩
theorem own_some3 (x : rNs) (h : x.few) : x.own.some3 := by
  obtain ⟨h1, h2, h3, h4, h5⟩ := h
  refine ⟨by simp [rNs.own]; omega, by simp [rNs.own]; omega, fun i hi => ?_⟩
  have hi' : i < x.ls.length := by simpa [rNs.own] using hi
  show (rd_T109 (x.ls.map toL) i).f1.length ≤ _
  rw [rd_toL _ _ hi']
  have := (h5 i hi').1
  simp [toL]; omega
end Go.Proofs.YtiohiiekaofkbaaDoor
