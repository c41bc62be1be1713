/- Texts of this claim, as far as they are used here: PNamesBackx11, PNamesBackx1. -/
import Derived.Test.YtiohiiekaofkbaaDoorZ04
import Derived.Test.YtiohiiekaofkbaaDoorZ11
/- Printed for this claim. -/
namespace Go.Proofs.YtiohiiekaofkbaaDoor.PNamesBack
open Go.RowKit Go.Proofs.YtiohiiekaofkbaaDoorW.PrintWords Go.Proofs.YtiohiiekaofkbaaDoorW.PrintLast Go.Proofs.YtiohiiekaofkbaaDoorW.PrintMore
attribute [local go_sem] max2_int min2_int max_two min_two max_three min_three max_four min_four
set_option linter.unusedVariables false
set_option linter.unusedSimpArgs false
def dobbylaw14_Own.l0 : Nat → Int → Bool → Bool → Bool → ByteArray → List (S101) → List (S103) → Bool → Bool → Bool → ByteArray → List (S121) → List (S109) → Option (Bool × Bool × Bool × ByteArray × (List (S121)) × (List (S109)))
  | 0, _, _, _, _, _, _, _, _, _, _, _, _, _ => none
  | k + 1, x4, x198000, x198001, x198002, x198003, x198004, x198005, x203000, x203001, x203002, x203003, x203004, x203005 => if x4 < (x198005.length : Int) then (if 0 ≤ x4 then ((dobbylaw14_ownList.f k ((rd_T103 x198005 x4).f1)).bind fun t205 => (if x203005.length < 4398046511104 then (dobbylaw14_Own.l0 k (wrap64 (x4 + 1)) x198000 x198001 x198002 x198003 x198004 x198005 x203000 x203001 x203002 x203003 x203004 (x203005 ++ [(⟨(rd_T103 x198005 x4).f0, t205⟩ : S109)])) else (none))) else (none)) else (some (x203000, x203001, x203002, x203003, x203004, x203005))
def dobbylaw14_Own.f (k : Nat) (a0_0 : Bool) (a0_1 : Bool) (a0_2 : Bool) (a0_3 : ByteArray) (l0_4 : List (S101)) (l0_5 : List (S103)) : Option (Bool × Bool × Bool × ByteArray × (List (S121)) × (List (S109))) := (dobbylaw14_ownList.f k l0_4).bind fun t199 => (dobbylaw14_Own.l0 k 0 a0_0 a0_1 a0_2 a0_3 l0_4 l0_5 a0_0 a0_1 a0_2 a0_3 t199 ([] : List (S109)))
theorem dobbylaw14_Own.mono_l : ∀ k, (∀ y0 y1 y2 y3 y4 y5 y6 y7 y8 y9 y10 y11 y12, LeO (dobbylaw14_Own.l0 k y0 y1 y2 y3 y4 y5 y6 y7 y8 y9 y10 y11 y12) (dobbylaw14_Own.l0 (k + 1) y0 y1 y2 y3 y4 y5 y6 y7 y8 y9 y10 y11 y12))
  | 0 => fun _ _ _ _ _ _ _ _ _ _ _ _ _ r h => by simp [dobbylaw14_Own.l0] at h
  | k + 1 => by
    have ih0 := dobbylaw14_Own.mono_l k
    · intro y0 y1 y2 y3 y4 y5 y6 y7 y8 y9 y10 y11 y12
      unfold dobbylaw14_Own.l0
      repeat' first
      | (with_reducible exact ih0 _ _ _ _ _ _ _ _ _ _ _ _ _)
      | (with_reducible exact dobbylaw14_ownList.mono _ _)
      | (with_reducible exact LeO.refl _)
      | (with_reducible exact LeO.none _)
      | (with_reducible refine LeO.ite ?_ ?_)
      | (with_reducible refine LeO.bind ?_ (fun _ => ?_))
      | exact ih0 _ _ _ _ _ _ _ _ _ _ _ _ _
      | exact dobbylaw14_ownList.mono _ _
      | exact LeO.none _
      | refine LeO.ite ?_ ?_
      | refine LeO.bind ?_ (fun _ => ?_)
theorem dobbylaw14_Own.mono : ∀ a0 a1 a2 a3 a4 a5 k, LeO (dobbylaw14_Own.f k a0 a1 a2 a3 a4 a5) (dobbylaw14_Own.f (k + 1) a0 a1 a2 a3 a4 a5) := by
  intro a0 a1 a2 a3 a4 a5 k
  have ih0 := dobbylaw14_Own.mono_l k
  unfold dobbylaw14_Own.f
  repeat' first
      | (with_reducible exact ih0 _ _ _ _ _ _ _ _ _ _ _ _ _)
      | (with_reducible exact dobbylaw14_ownList.mono _ _)
      | (with_reducible exact LeO.refl _)
      | (with_reducible exact LeO.none _)
      | (with_reducible refine LeO.ite ?_ ?_)
      | (with_reducible refine LeO.bind ?_ (fun _ => ?_))
      | exact ih0 _ _ _ _ _ _ _ _ _ _ _ _ _
      | exact dobbylaw14_ownList.mono _ _
      | exact LeO.none _
      | refine LeO.ite ?_ ?_
      | refine LeO.bind ?_ (fun _ => ?_)
def dobbylaw14_Own.T1 : Bool × List (List Nat × List Nat) := (true, [([], []), ([0], [0]), ([], []), ([2], [2]), ([], []), ([4], [4]), ([], []), ([6], [6]), ([], []), ([8], [8]), ([9], [9]), ([1, 3, 5, 7, 10], [1, 3, 5, 7, 10]), ([], []), ([12, 11, 10, 0, 1, 2, 3, 4, 5, 6, 7, 8, 9, 10, 11, 12], [11, 12])])
def dobbylaw14_Own.B1 : List Nat := [0, 1, 0, 4, 0, 16, 0, 64, 0, 256, 768, 2047, 0, 8191]
theorem dobbylaw14_Own.tab1 : rtab .any (opsOf Tryd.f10 1) = dobbylaw14_Own.T1 := by kernel_rfl
theorem dobbylaw14_Own.bits1 : waitsOk dobbylaw14_Own.T1.2 dobbylaw14_Own.B1 = true := by kernel_rfl
def dobbylaw14_Own.T5 : Bool × List (List Nat × List Nat) := (true, [([], []), ([0], [0]), ([], []), ([2], [2]), ([], []), ([3, 4], [3, 4]), ([5], [5]), ([6], [6]), ([], []), ([8], [8]), ([], []), ([9, 10], [9, 10]), ([11], [11]), ([12], [12]), ([13], [13]), ([7, 14], [7, 14]), ([15], [15]), ([1, 16, 14], [1, 16]), ([0, 1, 2, 3, 4, 5, 6, 7, 8, 9, 10, 11, 12, 13, 14, 15, 16, 17], []), ([18, 17, 17, 0, 1, 2, 3, 4, 5, 6, 7, 8, 9, 10, 11, 12, 13, 14, 15, 16, 17], [17, 18])])
def dobbylaw14_Own.B5 : List Nat := [0, 1, 0, 4, 0, 28, 60, 124, 0, 256, 0, 1792, 3840, 7936, 16128, 32764, 65532, 131071, 262143, 524287]
theorem dobbylaw14_Own.tab5 : rtab .any (opsOf Tryd.f10 5) = dobbylaw14_Own.T5 := by kernel_rfl
theorem dobbylaw14_Own.bits5 : waitsOk dobbylaw14_Own.T5.2 dobbylaw14_Own.B5 = true := by kernel_rfl
set_option maxHeartbeats 8000000 in
set_option maxRecDepth 100000 in
theorem dobbylaw14_Own.calls (k : Nat) (a0_0 : Bool) (a0_1 : Bool) (a0_2 : Bool) (a0_3 : ByteArray) (A0_4 : Option Addr) (c0_4 : Nat) (l0_4 : List (S101)) (A0_5 : Option Addr) (c0_5 : Nat) (l0_5 : List (S103)) (r1 : Bool) (r2 : Bool) (r3 : Bool) (r4 : ByteArray) (r5 : List (S121)) (r6 : List (S109)) (w : World) (hr0_4 : Kd.C k101 w A0_4 l0_4.length l0_4) (hc0_4 : l0_4.length ≤ c0_4) (hr0_5 : Kd.C k103 w A0_5 l0_5.length l0_5) (hc0_5 : l0_5.length ≤ c0_5) (h : dobbylaw14_Own.f k a0_0 a0_1 a0_2 a0_3 l0_4 l0_5 = some (r1, r2, r3, r4, r5, r6)) :
    Calls Tryd.prog 10 #[.agg #[.bool a0_0, .bool a0_1, .bool a0_2, .string a0_3, .slice A0_4 l0_4.length c0_4, .slice A0_5 l0_5.length c0_5]] w fun e w' => ∃ v4_ v5_ : Value, e = .returned (.agg #[.bool r1, .bool r2, .bool r3, .string r4, v4_, v5_]) ∧ Kd.R k121 121 w' w.heap.size (fun _ => True) v4_ r5 ∧ Kd.S k109 109 w' w.heap.size (fun k_ => some k_ ≠ (v4_ : Value).ownBlock) v5_ r6 ∧ Below w.heap.size w w' := by
  have hu25 := Tryd.underlying25
  have hu33 := Tryd.underlying33
  have hu109 := Tryd.underlying109
  have HR0_4 := Aside0.mk hr0_4
  have HC0_4 := Aside0.mk hc0_4
  clear hr0_4 hc0_4
  have HR0_5 := Aside0.mk hr0_5
  have HC0_5 := Aside0.mk hc0_5
  clear hr0_5 hc0_5
  have HB := Aside0.mk (Below.refl w.heap.size w)
  have H : ((dobbylaw14_ownList.f k l0_4).bind fun t199 => (dobbylaw14_Own.l0 k 0 a0_0 a0_1 a0_2 a0_3 l0_4 l0_5 a0_0 a0_1 a0_2 a0_3 t199 ([] : List (S109)))) = some (r1, r2, r3, r4, r5, r6) := h
  clear h
  replace H := Option.bind_eq_some_iff.mp H
  obtain ⟨t199, A20, H⟩ := H
  replace H : (dobbylaw14_Own.l0 k 0 a0_0 a0_1 a0_2 a0_3 l0_4 l0_5 a0_0 a0_1 a0_2 a0_3 t199 ([] : List (S109))) = some (r1, r2, r3, r4, r5, r6) := H
  have A2 := Aside0.mk A20
  clear A20
  have H' := Aside0.mk H
  clear H
  go_enter Tryd.func10, Tryd.ntmps10
  try go_wp2_with (first | ((with_reducible refine gate_dst (N := 1) rfl ?_); refine box_event ?hg (N := 1) ?hd (cs := #[.bool a0_0, .bool a0_1, .bool a0_2, .string a0_3, .slice A0_4 l0_4.length c0_4, .slice A0_5 l0_5.length c0_5]) (t := 25) ?hr ?_; (case hd => rfl); (case hg => rfl); (case hr => first | (go_simp; done) | (go_simp; rfl)); intro gb197 hg w3 hbox hb; have n0_ := Aside0.mk (below_step (by repeat (first | (with_reducible first | exact HB.out | apply below_alloc | apply pw_below_drewN | apply below_drew1) | exact HB.out)) hb); have n1_ := Aside0.mk (hbox); have n2_ := Aside0.mk ((by rw [hg]; exact (below_size (by repeat (first | (with_reducible first | exact HB.out | apply below_alloc | apply pw_below_drewN | apply below_drew1) | exact HB.out))) : w.heap.size ≤ gb197)); have n3_ := Aside0.mk ((by rw [hg]; exact (below_size (by repeat (first | (with_reducible first | exact HB.out | apply below_alloc | apply pw_below_drewN | apply below_drew1) | exact HB.out))) : w.heap.size ≤ gb197)); clear HB; have HB := n0_; have BK197 := n1_; have GW197 := n2_; have GE197 := n3_; clear n0_ n1_ n2_ n3_; clear hb hbox hg) | ((with_reducible refine gate_dst (N := 2) rfl ?_); refine box_event ?hg (N := 2) ?hd (cs := #[.bool false, .bool false, .bool false, .string (⟨#[]⟩ : ByteArray), .slice none 0 0, .slice none 0 0]) (t := 33) ?hr ?_; (case hd => rfl); (case hg => rfl); (case hr => first | (go_simp; done) | (go_simp; rfl)); intro gb198 hg w4 hbox hb; have n0_ := Aside0.mk (blk_below (g := gb197) (o := .cells #[.bool a0_0, .bool a0_1, .bool a0_2, .string a0_3, .slice A0_4 l0_4.length c0_4, .slice A0_5 l0_5.length c0_5] 25 (0, 0)) (by (with_reducible repeat (first | refine blk_drewN ?_ _ | refine blk_drew ?_ | refine blk_alloc ?_ _)); exact BK197.out) hb); have n1_ := Aside0.mk (below_step (by repeat (first | (with_reducible first | exact HB.out | apply below_alloc | apply pw_below_drewN | apply below_drew1 | refine below_set ?_ GE197.out) | exact HB.out)) hb); have n2_ := Aside0.mk (hbox); have n3_ := Aside0.mk ((by rw [hg]; exact (below_size (by repeat (first | (with_reducible first | exact HB.out | apply below_alloc | apply pw_below_drewN | apply below_drew1 | refine below_set ?_ GE197.out) | exact HB.out))) : w.heap.size ≤ gb198)); have n4_ := Aside0.mk ((by rw [hg]; exact (below_size (by repeat (first | (with_reducible first | exact HB.out | apply below_alloc | apply pw_below_drewN | apply below_drew1 | refine below_set ?_ GE197.out) | exact HB.out))) : w.heap.size ≤ gb198)); have n5_ := Aside0.mk ((by rw [hg]; exact Nat.ne_of_lt (blk_lt (g := gb197) (o := .cells #[.bool a0_0, .bool a0_1, .bool a0_2, .string a0_3, .slice A0_4 l0_4.length c0_4, .slice A0_5 l0_5.length c0_5] 25 (0, 0)) (by (with_reducible repeat (first | refine blk_drewN ?_ _ | refine blk_drew ?_ | refine blk_alloc ?_ _)); exact BK197.out)) : gb197 ≠ gb198)); have n6_ := Aside0.mk ((by rw [hg]; exact Nat.ne_of_gt (blk_lt (g := gb197) (o := .cells #[.bool a0_0, .bool a0_1, .bool a0_2, .string a0_3, .slice A0_4 l0_4.length c0_4, .slice A0_5 l0_5.length c0_5] 25 (0, 0)) (by (with_reducible repeat (first | refine blk_drewN ?_ _ | refine blk_drew ?_ | refine blk_alloc ?_ _)); exact BK197.out)) : gb198 ≠ gb197)); clear BK197; clear HB; have BK197 := n0_; have HB := n1_; have BK198 := n2_; have GW198 := n3_; have GE198 := n4_; have NB197_198 := n5_; have NB198_197 := n6_; clear n0_ n1_ n2_ n3_ n4_ n5_ n6_; clear hb hbox hg))
  have n0_ := Aside0.mk (blk_drew BK197.out)
  have n1_ := Aside0.mk (blk_drew BK198.out)
  have n2_ := Aside0.mk (below_drew1 HB.out)
  clear BK197
  clear BK198
  clear HB
  have BK197 := n0_
  have BK198 := n1_
  have HB := n2_
  clear n0_ n1_ n2_
  refine start_ (n := 14) (S := fun w' => w'.cell? ⟨gb197, 0, none⟩ = some (.bool a0_0) ∧ w'.cell? ⟨gb197, 1, none⟩ = some (.bool a0_1) ∧ w'.cell? ⟨gb197, 2, none⟩ = some (.bool a0_2) ∧ w'.cell? ⟨gb197, 3, none⟩ = some (.string a0_3) ∧ w'.cell? ⟨gb197, 4, none⟩ = some (.slice A0_4 l0_4.length c0_4) ∧ w'.cell? ⟨gb197, 5, none⟩ = some (.slice A0_5 l0_5.length c0_5)) (ds := []) #[false, false, false, false, false, false, false, false, false, false, false, false, false, false] (by kernel_rfl) rfl rfl ⟨(blk_cell BK197.out 0).trans rfl, (blk_cell BK197.out 1).trans rfl, (blk_cell BK197.out 2).trans rfl, (blk_cell BK197.out 3).trans rfl, (blk_cell BK197.out 4).trans rfl, (blk_cell BK197.out 5).trans rfl⟩ (fun hHeld => ?_); refine with_tabW dobbylaw14_Own.tab1 dobbylaw14_Own.bits1 (fun HT_ HW_ => ?_)
  generalize w4.drew = w5 at BK197 BK198 HB hHeld ⊢
  refine pure_ (i := 0) (N := some 5) (v := ?_) (a' := ?_) #[true, false, false, false, false, false, false, false, false, false, false, false, false, false] rfl rfl (any_of HT_.out (by kernel_rfl)) (fun _ _ _ h => h) (Or.inl ⟨by rfl, ?_⟩) ?_ ?_
  rotate_left
  · intro w'
    go_simp
    with_reducible rfl
  rotate_left
  · simp only [Act.put, List.setIfInBounds_toArray, List.set_cons_zero, List.set_cons_succ, i64_w, i32_w]
    rfl
  refine pure_ (i := 2) (N := some 7) (v := ?_) (a' := ?_) #[true, false, true, false, false, false, false, false, false, false, false, false, false, false] rfl rfl (any_of HT_.out (by kernel_rfl)) (fun _ _ _ h => h) (Or.inl ⟨by rfl, ?_⟩) ?_ ?_
  rotate_left
  · intro w'
    go_simp
    with_reducible rfl
  rotate_left
  · simp only [Act.put, List.setIfInBounds_toArray, List.set_cons_zero, List.set_cons_succ, i64_w, i32_w]
    rfl
  refine pure_ (i := 4) (N := some 9) (v := ?_) (a' := ?_) #[true, false, true, false, true, false, false, false, false, false, false, false, false, false] rfl rfl (any_of HT_.out (by kernel_rfl)) (fun _ _ _ h => h) (Or.inl ⟨by rfl, ?_⟩) ?_ ?_
  rotate_left
  · intro w'
    go_simp
    with_reducible rfl
  rotate_left
  · simp only [Act.put, List.setIfInBounds_toArray, List.set_cons_zero, List.set_cons_succ, i64_w, i32_w]
    rfl
  refine pure_ (i := 6) (N := some 11) (v := ?_) (a' := ?_) #[true, false, true, false, true, false, true, false, false, false, false, false, false, false] rfl rfl (any_of HT_.out (by kernel_rfl)) (fun _ _ _ h => h) (Or.inl ⟨by rfl, ?_⟩) ?_ ?_
  rotate_left
  · intro w'
    go_simp
    with_reducible rfl
  rotate_left
  · simp only [Act.put, List.setIfInBounds_toArray, List.set_cons_zero, List.set_cons_succ, i64_w, i32_w]
    rfl
  refine pure_ (i := 8) (N := some 13) (v := ?_) (a' := ?_) #[true, false, true, false, true, false, true, false, true, false, false, false, false, false] rfl rfl (any_of HT_.out (by kernel_rfl)) (fun _ _ _ h => h) (Or.inl ⟨by rfl, ?_⟩) ?_ ?_
  rotate_left
  · intro w'
    go_simp
    with_reducible rfl
  rotate_left
  · simp only [Act.put, List.setIfInBounds_toArray, List.set_cons_zero, List.set_cons_succ, i64_w, i32_w]
    rfl
  refine take_ (i := 1) (N := some 6) (v := ?_) (a' := ?_) #[true, true, true, false, true, false, true, false, true, false, false, false, false, false] rfl rfl (take_ofW HT_.out HW_.out (by kernel_rfl)) (fun _ _ _ h => h) (Or.inl ⟨by rfl, ?_⟩) hHeld ?_ ?_
  rotate_left
  · rintro w' ⟨s0, s1, s2, s3, s4, s5⟩
    go_simp
    with_reducible rfl
  rotate_left
  · simp only [Act.put, List.setIfInBounds_toArray, List.set_cons_zero, List.set_cons_succ, i64_w, i32_w]
    rfl
  refine take_ (i := 3) (N := some 8) (v := ?_) (a' := ?_) #[true, true, true, true, true, false, true, false, true, false, false, false, false, false] rfl rfl (take_ofW HT_.out HW_.out (by kernel_rfl)) (fun _ _ _ h => h) (Or.inl ⟨by rfl, ?_⟩) hHeld ?_ ?_
  rotate_left
  · rintro w' ⟨s0, s1, s2, s3, s4, s5⟩
    go_simp
    with_reducible rfl
  rotate_left
  · simp only [Act.put, List.setIfInBounds_toArray, List.set_cons_zero, List.set_cons_succ, i64_w, i32_w]
    rfl
  refine take_ (i := 5) (N := some 10) (v := ?_) (a' := ?_) #[true, true, true, true, true, true, true, false, true, false, false, false, false, false] rfl rfl (take_ofW HT_.out HW_.out (by kernel_rfl)) (fun _ _ _ h => h) (Or.inl ⟨by rfl, ?_⟩) hHeld ?_ ?_
  rotate_left
  · rintro w' ⟨s0, s1, s2, s3, s4, s5⟩
    go_simp
    with_reducible rfl
  rotate_left
  · simp only [Act.put, List.setIfInBounds_toArray, List.set_cons_zero, List.set_cons_succ, i64_w, i32_w]
    rfl
  refine take_ (i := 7) (N := some 12) (v := ?_) (a' := ?_) #[true, true, true, true, true, true, true, true, true, false, false, false, false, false] rfl rfl (take_ofW HT_.out HW_.out (by kernel_rfl)) (fun _ _ _ h => h) (Or.inl ⟨by rfl, ?_⟩) hHeld ?_ ?_
  rotate_left
  · rintro w' ⟨s0, s1, s2, s3, s4, s5⟩
    go_simp
    with_reducible rfl
  rotate_left
  · simp only [Act.put, List.setIfInBounds_toArray, List.set_cons_zero, List.set_cons_succ, i64_w, i32_w]
    rfl
  refine take_ (i := 9) (N := some 14) (v := ?_) (a' := ?_) #[true, true, true, true, true, true, true, true, true, true, false, false, false, false] rfl rfl (take_ofW HT_.out HW_.out (by kernel_rfl)) (fun _ _ _ h => h) (Or.inl ⟨by rfl, ?_⟩) hHeld ?_ ?_
  rotate_left
  · rintro w' ⟨s0, s1, s2, s3, s4, s5⟩
    go_simp
    with_reducible rfl
  rotate_left
  · simp only [Act.put, List.setIfInBounds_toArray, List.set_cons_zero, List.set_cons_succ, i64_w, i32_w]
    rfl
  refine join_ (σ := Value × Nat) 1 #[true, true, true, true, true, true, true, true, true, true, true, true, true, false] (fun s_ => [(15, s_.1), (3, .pointer (some ⟨s_.2, 0, none⟩)), (16, .agg #[.bool a0_0, .bool a0_1, .bool a0_2, .string a0_3, s_.1, .slice none 0 0])]) (fun s_ w' => (w'.cell? ⟨gb197, 0, none⟩ = some (.bool a0_0) ∧ w'.cell? ⟨gb197, 1, none⟩ = some (.bool a0_1) ∧ w'.cell? ⟨gb197, 2, none⟩ = some (.bool a0_2) ∧ w'.cell? ⟨gb197, 3, none⟩ = some (.string a0_3) ∧ w'.cell? ⟨gb197, 4, none⟩ = some (.slice A0_4 l0_4.length c0_4) ∧ w'.cell? ⟨gb197, 5, none⟩ = some (.slice A0_5 l0_5.length c0_5)) ∧ (Kd.R k121 121 w' w.heap.size (fun _ => True) s_.1 t199) ∧ (w'.heap[gb197]? = some (.cells #[.bool a0_0, .bool a0_1, .bool a0_2, .string a0_3, .slice A0_4 l0_4.length c0_4, .slice A0_5 l0_5.length c0_5] 25 (0, 0))) ∧ (w'.heap[gb198]? = some (.cells #[.bool false, .bool false, .bool false, .string (⟨#[]⟩ : ByteArray), .slice none 0 0, .slice none 0 0] 33 (0, 0))) ∧ (w'.heap[s_.2]? = some (.cells #[.bool false, .bool false, .bool false, .string (⟨#[]⟩ : ByteArray), .slice none 0 0, .slice none 0 0] 33 (0, 0))) ∧ (w.heap.size ≤ s_.2) ∧ (w.heap.size ≤ s_.2) ∧ (gb197 ≠ s_.2) ∧ (s_.2 ≠ gb197) ∧ (gb198 ≠ s_.2) ∧ (s_.2 ≠ gb198) ∧ (Below w.heap.size w w')) ?_ ?_
  rotate_left
  · intro hCont
    refine two_ (i := 10) (j := 12) (Ni := some 15) (Nj := some 3) #[true, true, true, true, true, true, true, true, true, true, true, false, false, false] #[true, true, true, true, true, true, true, true, true, true, false, false, true, false] rfl rfl rfl rfl (two_of HT_.out (by kernel_rfl)) (by decide) (by decide) (fun K hK => ?_) (fun K hK => ?_)
    · skip
      refine goes_ Tryd.func62 (by kernel_rfl) rfl #[.slice A0_4 l0_4.length c0_4] (by rfl) rfl rfl (by (try simp only [List.map_toArray, List.map_cons, List.map_nil]); first | done | rfl | (simp only [List.length_drop, List.length_take]; rfl)) ?_
      with_reducible refine (dobbylaw14_ownList.calls k _ _ l0_4 t199 _ ?side1 ?side2 A2.out).mono ?_
      (case side1 => repeat (first | exact (Kd.C_below HR0_4.out HB.out) | (with_reducible refine Kd.C_alloc ?_ _) | (with_reducible refine Kd.C_drewN ?_ _) | (with_reducible refine Kd.C_drew ?_)))
      (case side2 => exact HC0_4.out)
      rintro e w6 ⟨v200, rfl, ho0, hb⟩
      refine ⟨_, rfl, ?_⟩
      have n0_ := Aside0.mk (Kd.R_lower ho0 (below_size (by repeat (first | (with_reducible first | exact HB.out | apply below_alloc | apply pw_below_drewN | apply below_drew1 | refine below_set ?_ GE197.out | refine below_set ?_ GE198.out) | exact HB.out))))
      have n1_ := Aside0.mk (blk_below (g := gb197) (o := .cells #[.bool a0_0, .bool a0_1, .bool a0_2, .string a0_3, .slice A0_4 l0_4.length c0_4, .slice A0_5 l0_5.length c0_5] 25 (0, 0)) (by (with_reducible repeat (first | refine blk_drewN ?_ _ | refine blk_drew ?_ | refine blk_alloc ?_ _)); exact BK197.out) hb)
      have n2_ := Aside0.mk (blk_below (g := gb198) (o := .cells #[.bool false, .bool false, .bool false, .string (⟨#[]⟩ : ByteArray), .slice none 0 0, .slice none 0 0] 33 (0, 0)) (by (with_reducible repeat (first | refine blk_drewN ?_ _ | refine blk_drew ?_ | refine blk_alloc ?_ _)); exact BK198.out) hb)
      have n3_ := Aside0.mk (below_step (by repeat (first | (with_reducible first | exact HB.out | apply below_alloc | apply pw_below_drewN | apply below_drew1 | refine below_set ?_ GE197.out | refine below_set ?_ GE198.out) | exact HB.out)) hb)
      clear BK197
      clear BK198
      clear HB
      have HO201 := n0_
      have BK197 := n1_
      have BK198 := n2_
      have HB := n3_
      clear n0_ n1_ n2_ n3_
      (try clear hb)
      (try clear hb2)
      (try clear hk)
      (try clear hi)
      (try clear ho0)
      obtain ⟨Ao7, co7, eo7⟩ := Kd.R_slice HO201.out
      (first | subst eo7 | (injection eo7 with f1_ f2_ f3_; have f4_ := f1_.symm; have f5_ := f3_.symm; clear f1_ f2_ f3_; subst f4_; subst f5_))
      refine hK.out _ _ ⟨(blk_cell BK197.out 0).trans rfl, (blk_cell BK197.out 1).trans rfl, (blk_cell BK197.out 2).trans rfl, (blk_cell BK197.out 3).trans rfl, (blk_cell BK197.out 4).trans rfl, (blk_cell BK197.out 5).trans rfl⟩ (fun hHeld => ?_)
      clear hK K
      refine norm_ (a' := ?_) ?_ ?_
      rotate_left
      · show Act.put _ (some 15) _ = _
        simp only [Act.put, List.setIfInBounds_toArray, List.set_cons_zero, List.set_cons_succ, i64_w, i32_w]
        rfl
      refine pure_ (i := 11) (N := some 16) (v := ?_) (a' := ?_) #[true, true, true, true, true, true, true, true, true, true, true, true, false, false] rfl rfl (any_of HT_.out (by kernel_rfl)) (fun _ _ _ h => h) (Or.inl ⟨by rfl, ?_⟩) ?_ ?_
      rotate_left
      · intro w'
        go_simp
        with_reducible rfl
      rotate_left
      · simp only [Act.put, List.setIfInBounds_toArray, List.set_cons_zero, List.set_cons_succ, i64_w, i32_w]
        rfl
      refine one_ (i := 12) (N := some 3) #[true, true, true, true, true, true, true, true, true, true, true, true, true, false] rfl rfl (one_of HT_.out (by kernel_rfl)) (by decide) (fun K hK => ?_)
      refine box_step ?hg (N := 3) ?hd (cs := #[.bool false, .bool false, .bool false, .string (⟨#[]⟩ : ByteArray), .slice none 0 0, .slice none 0 0]) (t := 33) ?hr ?_; (case hd => rfl); (case hg => rfl); (case hr => first | (go_simp; done) | (go_simp; rfl))
      intro gb202 hg w8 hbox hb
      have n0_ := Aside0.mk (Kd.R_below (by (with_reducible repeat (first | apply Kd.R_alloc | apply Kd.R_drewN | apply Kd.R_drew)); exact HO201.out) hb)
      have n1_ := Aside0.mk (blk_below (g := gb197) (o := .cells #[.bool a0_0, .bool a0_1, .bool a0_2, .string a0_3, .slice A0_4 l0_4.length c0_4, .slice A0_5 l0_5.length c0_5] 25 (0, 0)) (by (with_reducible repeat (first | refine blk_drewN ?_ _ | refine blk_drew ?_ | refine blk_alloc ?_ _)); exact BK197.out) hb)
      have n2_ := Aside0.mk (blk_below (g := gb198) (o := .cells #[.bool false, .bool false, .bool false, .string (⟨#[]⟩ : ByteArray), .slice none 0 0, .slice none 0 0] 33 (0, 0)) (by (with_reducible repeat (first | refine blk_drewN ?_ _ | refine blk_drew ?_ | refine blk_alloc ?_ _)); exact BK198.out) hb)
      have n3_ := Aside0.mk (below_step (by repeat (first | (with_reducible first | exact HB.out | apply below_alloc | apply pw_below_drewN | apply below_drew1 | refine below_set ?_ GE197.out | refine below_set ?_ GE198.out) | exact HB.out)) hb)
      have n4_ := Aside0.mk (hbox)
      have n5_ := Aside0.mk ((by rw [hg]; exact (below_size (by repeat (first | (with_reducible first | exact HB.out | apply below_alloc | apply pw_below_drewN | apply below_drew1 | refine below_set ?_ GE197.out | refine below_set ?_ GE198.out) | exact HB.out))) : w.heap.size ≤ gb202))
      have n6_ := Aside0.mk ((by rw [hg]; exact (below_size (by repeat (first | (with_reducible first | exact HB.out | apply below_alloc | apply pw_below_drewN | apply below_drew1 | refine below_set ?_ GE197.out | refine below_set ?_ GE198.out) | exact HB.out))) : w.heap.size ≤ gb202))
      have n7_ := Aside0.mk ((by rw [hg]; exact Nat.ne_of_lt (blk_lt (g := gb197) (o := .cells #[.bool a0_0, .bool a0_1, .bool a0_2, .string a0_3, .slice A0_4 l0_4.length c0_4, .slice A0_5 l0_5.length c0_5] 25 (0, 0)) (by (with_reducible repeat (first | refine blk_drewN ?_ _ | refine blk_drew ?_ | refine blk_alloc ?_ _)); exact BK197.out)) : gb197 ≠ gb202))
      have n8_ := Aside0.mk ((by rw [hg]; exact Nat.ne_of_gt (blk_lt (g := gb197) (o := .cells #[.bool a0_0, .bool a0_1, .bool a0_2, .string a0_3, .slice A0_4 l0_4.length c0_4, .slice A0_5 l0_5.length c0_5] 25 (0, 0)) (by (with_reducible repeat (first | refine blk_drewN ?_ _ | refine blk_drew ?_ | refine blk_alloc ?_ _)); exact BK197.out)) : gb202 ≠ gb197))
      have n9_ := Aside0.mk ((by rw [hg]; exact Nat.ne_of_lt (blk_lt (g := gb198) (o := .cells #[.bool false, .bool false, .bool false, .string (⟨#[]⟩ : ByteArray), .slice none 0 0, .slice none 0 0] 33 (0, 0)) (by (with_reducible repeat (first | refine blk_drewN ?_ _ | refine blk_drew ?_ | refine blk_alloc ?_ _)); exact BK198.out)) : gb198 ≠ gb202))
      have n10_ := Aside0.mk ((by rw [hg]; exact Nat.ne_of_gt (blk_lt (g := gb198) (o := .cells #[.bool false, .bool false, .bool false, .string (⟨#[]⟩ : ByteArray), .slice none 0 0, .slice none 0 0] 33 (0, 0)) (by (with_reducible repeat (first | refine blk_drewN ?_ _ | refine blk_drew ?_ | refine blk_alloc ?_ _)); exact BK198.out)) : gb202 ≠ gb198))
      clear HO201
      clear BK197
      clear BK198
      clear HB
      have HO201 := n0_
      have BK197 := n1_
      have BK198 := n2_
      have HB := n3_
      have BK202 := n4_
      have GW202 := n5_
      have GE202 := n6_
      have NB197_202 := n7_
      have NB202_197 := n8_
      have NB198_202 := n9_
      have NB202_198 := n10_
      clear n0_ n1_ n2_ n3_ n4_ n5_ n6_ n7_ n8_ n9_ n10_
      clear hb hbox hg
      refine hK.out _ _ ⟨(blk_cell BK197.out 0).trans rfl, (blk_cell BK197.out 1).trans rfl, (blk_cell BK197.out 2).trans rfl, (blk_cell BK197.out 3).trans rfl, (blk_cell BK197.out 4).trans rfl, (blk_cell BK197.out 5).trans rfl⟩ (fun hHeld => ?_)
      clear hK K
      refine norm_ (a' := ?_) ?_ ?_
      rotate_left
      · show Act.put _ (some 3) _ = _
        simp only [Act.put, List.setIfInBounds_toArray, List.set_cons_zero, List.set_cons_succ, i64_w, i32_w]
        rfl
      exact norm_ (by simp only [putAll, Act.put, List.setIfInBounds_toArray, List.set_cons_zero, List.set_cons_succ]) (hCont (.slice Ao7 t199.length co7, gb202) _ ⟨hHeld, (by (with_reducible repeat (first | apply Kd.R_alloc | apply Kd.R_drewN | apply Kd.R_drew)); exact HO201.out), (by (with_reducible repeat (first | refine blk_drewN ?_ _ | refine blk_drew ?_ | refine blk_alloc ?_ _)); exact BK197.out), (by (with_reducible repeat (first | refine blk_drewN ?_ _ | refine blk_drew ?_ | refine blk_alloc ?_ _)); exact BK198.out), (by (with_reducible repeat (first | refine blk_drewN ?_ _ | refine blk_drew ?_ | refine blk_alloc ?_ _)); exact BK202.out), GW202.out, GE202.out, NB197_202.out, NB202_197.out, NB198_202.out, NB202_198.out, (by repeat (first | (with_reducible first | exact HB.out | apply below_alloc | apply pw_below_drewN | apply below_drew1 | refine below_set ?_ GE197.out | refine below_set ?_ GE198.out | refine below_set ?_ GE202.out) | exact HB.out))⟩)
    · skip
      refine box_step ?hg (N := 3) ?hd (cs := #[.bool false, .bool false, .bool false, .string (⟨#[]⟩ : ByteArray), .slice none 0 0, .slice none 0 0]) (t := 33) ?hr ?_; (case hd => rfl); (case hg => rfl); (case hr => first | (go_simp; done) | (go_simp; rfl))
      intro gb202 hg w6 hbox hb
      have n0_ := Aside0.mk (blk_below (g := gb197) (o := .cells #[.bool a0_0, .bool a0_1, .bool a0_2, .string a0_3, .slice A0_4 l0_4.length c0_4, .slice A0_5 l0_5.length c0_5] 25 (0, 0)) (by (with_reducible repeat (first | refine blk_drewN ?_ _ | refine blk_drew ?_ | refine blk_alloc ?_ _)); exact BK197.out) hb)
      have n1_ := Aside0.mk (blk_below (g := gb198) (o := .cells #[.bool false, .bool false, .bool false, .string (⟨#[]⟩ : ByteArray), .slice none 0 0, .slice none 0 0] 33 (0, 0)) (by (with_reducible repeat (first | refine blk_drewN ?_ _ | refine blk_drew ?_ | refine blk_alloc ?_ _)); exact BK198.out) hb)
      have n2_ := Aside0.mk (below_step (by repeat (first | (with_reducible first | exact HB.out | apply below_alloc | apply pw_below_drewN | apply below_drew1 | refine below_set ?_ GE197.out | refine below_set ?_ GE198.out) | exact HB.out)) hb)
      have n3_ := Aside0.mk (hbox)
      have n4_ := Aside0.mk ((by rw [hg]; exact (below_size (by repeat (first | (with_reducible first | exact HB.out | apply below_alloc | apply pw_below_drewN | apply below_drew1 | refine below_set ?_ GE197.out | refine below_set ?_ GE198.out) | exact HB.out))) : w.heap.size ≤ gb202))
      have n5_ := Aside0.mk ((by rw [hg]; exact (below_size (by repeat (first | (with_reducible first | exact HB.out | apply below_alloc | apply pw_below_drewN | apply below_drew1 | refine below_set ?_ GE197.out | refine below_set ?_ GE198.out) | exact HB.out))) : w.heap.size ≤ gb202))
      have n6_ := Aside0.mk ((by rw [hg]; exact Nat.ne_of_lt (blk_lt (g := gb197) (o := .cells #[.bool a0_0, .bool a0_1, .bool a0_2, .string a0_3, .slice A0_4 l0_4.length c0_4, .slice A0_5 l0_5.length c0_5] 25 (0, 0)) (by (with_reducible repeat (first | refine blk_drewN ?_ _ | refine blk_drew ?_ | refine blk_alloc ?_ _)); exact BK197.out)) : gb197 ≠ gb202))
      have n7_ := Aside0.mk ((by rw [hg]; exact Nat.ne_of_gt (blk_lt (g := gb197) (o := .cells #[.bool a0_0, .bool a0_1, .bool a0_2, .string a0_3, .slice A0_4 l0_4.length c0_4, .slice A0_5 l0_5.length c0_5] 25 (0, 0)) (by (with_reducible repeat (first | refine blk_drewN ?_ _ | refine blk_drew ?_ | refine blk_alloc ?_ _)); exact BK197.out)) : gb202 ≠ gb197))
      have n8_ := Aside0.mk ((by rw [hg]; exact Nat.ne_of_lt (blk_lt (g := gb198) (o := .cells #[.bool false, .bool false, .bool false, .string (⟨#[]⟩ : ByteArray), .slice none 0 0, .slice none 0 0] 33 (0, 0)) (by (with_reducible repeat (first | refine blk_drewN ?_ _ | refine blk_drew ?_ | refine blk_alloc ?_ _)); exact BK198.out)) : gb198 ≠ gb202))
      have n9_ := Aside0.mk ((by rw [hg]; exact Nat.ne_of_gt (blk_lt (g := gb198) (o := .cells #[.bool false, .bool false, .bool false, .string (⟨#[]⟩ : ByteArray), .slice none 0 0, .slice none 0 0] 33 (0, 0)) (by (with_reducible repeat (first | refine blk_drewN ?_ _ | refine blk_drew ?_ | refine blk_alloc ?_ _)); exact BK198.out)) : gb202 ≠ gb198))
      clear BK197
      clear BK198
      clear HB
      have BK197 := n0_
      have BK198 := n1_
      have HB := n2_
      have BK202 := n3_
      have GW202 := n4_
      have GE202 := n5_
      have NB197_202 := n6_
      have NB202_197 := n7_
      have NB198_202 := n8_
      have NB202_198 := n9_
      clear n0_ n1_ n2_ n3_ n4_ n5_ n6_ n7_ n8_ n9_
      clear hb hbox hg
      refine hK.out _ _ ⟨(blk_cell BK197.out 0).trans rfl, (blk_cell BK197.out 1).trans rfl, (blk_cell BK197.out 2).trans rfl, (blk_cell BK197.out 3).trans rfl, (blk_cell BK197.out 4).trans rfl, (blk_cell BK197.out 5).trans rfl⟩ (fun hHeld => ?_)
      clear hK K
      refine norm_ (a' := ?_) ?_ ?_
      rotate_left
      · show Act.put _ (some 3) _ = _
        simp only [Act.put, List.setIfInBounds_toArray, List.set_cons_zero, List.set_cons_succ, i64_w, i32_w]
        rfl
      refine one_ (i := 10) (N := some 15) #[true, true, true, true, true, true, true, true, true, true, true, false, true, false] rfl rfl (one_of HT_.out (by kernel_rfl)) (by decide) (fun K hK => ?_)
      refine goes_ Tryd.func62 (by kernel_rfl) rfl #[.slice A0_4 l0_4.length c0_4] (by rfl) rfl rfl (by (try simp only [List.map_toArray, List.map_cons, List.map_nil]); first | done | rfl | (simp only [List.length_drop, List.length_take]; rfl)) ?_
      with_reducible refine (dobbylaw14_ownList.calls k _ _ l0_4 t199 _ ?side1 ?side2 A2.out).mono ?_
      (case side1 => repeat (first | exact (Kd.C_below HR0_4.out HB.out) | (with_reducible refine Kd.C_alloc ?_ _) | (with_reducible refine Kd.C_drewN ?_ _) | (with_reducible refine Kd.C_drew ?_)))
      (case side2 => exact HC0_4.out)
      rintro e w7 ⟨v200, rfl, ho0, hb⟩
      refine ⟨_, rfl, ?_⟩
      have n0_ := Aside0.mk (Kd.R_lower ho0 (below_size (by repeat (first | (with_reducible first | exact HB.out | apply below_alloc | apply pw_below_drewN | apply below_drew1 | refine below_set ?_ GE197.out | refine below_set ?_ GE198.out | refine below_set ?_ GE202.out) | exact HB.out))))
      have n1_ := Aside0.mk (blk_below (g := gb197) (o := .cells #[.bool a0_0, .bool a0_1, .bool a0_2, .string a0_3, .slice A0_4 l0_4.length c0_4, .slice A0_5 l0_5.length c0_5] 25 (0, 0)) (by (with_reducible repeat (first | refine blk_drewN ?_ _ | refine blk_drew ?_ | refine blk_alloc ?_ _)); exact BK197.out) hb)
      have n2_ := Aside0.mk (blk_below (g := gb198) (o := .cells #[.bool false, .bool false, .bool false, .string (⟨#[]⟩ : ByteArray), .slice none 0 0, .slice none 0 0] 33 (0, 0)) (by (with_reducible repeat (first | refine blk_drewN ?_ _ | refine blk_drew ?_ | refine blk_alloc ?_ _)); exact BK198.out) hb)
      have n3_ := Aside0.mk (blk_below (g := gb202) (o := .cells #[.bool false, .bool false, .bool false, .string (⟨#[]⟩ : ByteArray), .slice none 0 0, .slice none 0 0] 33 (0, 0)) (by (with_reducible repeat (first | refine blk_drewN ?_ _ | refine blk_drew ?_ | refine blk_alloc ?_ _)); exact BK202.out) hb)
      have n4_ := Aside0.mk (below_step (by repeat (first | (with_reducible first | exact HB.out | apply below_alloc | apply pw_below_drewN | apply below_drew1 | refine below_set ?_ GE197.out | refine below_set ?_ GE198.out | refine below_set ?_ GE202.out) | exact HB.out)) hb)
      clear BK197
      clear BK198
      clear BK202
      clear HB
      have HO201 := n0_
      have BK197 := n1_
      have BK198 := n2_
      have BK202 := n3_
      have HB := n4_
      clear n0_ n1_ n2_ n3_ n4_
      (try clear hb)
      (try clear hb2)
      (try clear hk)
      (try clear hi)
      (try clear ho0)
      obtain ⟨Ao8, co8, eo8⟩ := Kd.R_slice HO201.out
      (first | subst eo8 | (injection eo8 with f1_ f2_ f3_; have f4_ := f1_.symm; have f5_ := f3_.symm; clear f1_ f2_ f3_; subst f4_; subst f5_))
      refine hK.out _ _ ⟨(blk_cell BK197.out 0).trans rfl, (blk_cell BK197.out 1).trans rfl, (blk_cell BK197.out 2).trans rfl, (blk_cell BK197.out 3).trans rfl, (blk_cell BK197.out 4).trans rfl, (blk_cell BK197.out 5).trans rfl⟩ (fun hHeld => ?_)
      clear hK K
      refine norm_ (a' := ?_) ?_ ?_
      rotate_left
      · show Act.put _ (some 15) _ = _
        simp only [Act.put, List.setIfInBounds_toArray, List.set_cons_zero, List.set_cons_succ, i64_w, i32_w]
        rfl
      refine pure_ (i := 11) (N := some 16) (v := ?_) (a' := ?_) #[true, true, true, true, true, true, true, true, true, true, true, true, true, false] rfl rfl (any_of HT_.out (by kernel_rfl)) (fun _ _ _ h => h) (Or.inl ⟨by rfl, ?_⟩) ?_ ?_
      rotate_left
      · intro w'
        go_simp
        with_reducible rfl
      rotate_left
      · simp only [Act.put, List.setIfInBounds_toArray, List.set_cons_zero, List.set_cons_succ, i64_w, i32_w]
        rfl
      exact norm_ (by simp only [putAll, Act.put, List.setIfInBounds_toArray, List.set_cons_zero, List.set_cons_succ]) (hCont (.slice Ao8 t199.length co8, gb202) _ ⟨hHeld, (by (with_reducible repeat (first | apply Kd.R_alloc | apply Kd.R_drewN | apply Kd.R_drew)); exact HO201.out), (by (with_reducible repeat (first | refine blk_drewN ?_ _ | refine blk_drew ?_ | refine blk_alloc ?_ _)); exact BK197.out), (by (with_reducible repeat (first | refine blk_drewN ?_ _ | refine blk_drew ?_ | refine blk_alloc ?_ _)); exact BK198.out), (by (with_reducible repeat (first | refine blk_drewN ?_ _ | refine blk_drew ?_ | refine blk_alloc ?_ _)); exact BK202.out), GW202.out, GE202.out, NB197_202.out, NB202_197.out, NB198_202.out, NB202_198.out, (by repeat (first | (with_reducible first | exact HB.out | apply below_alloc | apply pw_below_drewN | apply below_drew1 | refine below_set ?_ GE197.out | refine below_set ?_ GE198.out | refine below_set ?_ GE202.out) | exact HB.out))⟩)
  rintro ⟨v200, gb202⟩ w9 ⟨hS_, h0_, h1_, h2_, h3_, h4_, h5_, h6_, h7_, h8_, h9_, h10_⟩
  have n0_ : Aside0 (Kd.R k121 121 w9 w.heap.size (fun _ => True) v200 t199) := ⟨h0_⟩
  have n1_ : Aside0 (w9.heap[gb197]? = some (.cells #[.bool a0_0, .bool a0_1, .bool a0_2, .string a0_3, .slice A0_4 l0_4.length c0_4, .slice A0_5 l0_5.length c0_5] 25 (0, 0))) := ⟨h1_⟩
  have n2_ : Aside0 (w9.heap[gb198]? = some (.cells #[.bool false, .bool false, .bool false, .string (⟨#[]⟩ : ByteArray), .slice none 0 0, .slice none 0 0] 33 (0, 0))) := ⟨h2_⟩
  have n3_ : Aside0 (w9.heap[gb202]? = some (.cells #[.bool false, .bool false, .bool false, .string (⟨#[]⟩ : ByteArray), .slice none 0 0, .slice none 0 0] 33 (0, 0))) := ⟨h3_⟩
  have n4_ : Aside0 (w.heap.size ≤ gb202) := ⟨h4_⟩
  have n5_ : Aside0 (w.heap.size ≤ gb202) := ⟨h5_⟩
  have n6_ : Aside0 (gb197 ≠ gb202) := ⟨h6_⟩
  have n7_ : Aside0 (gb202 ≠ gb197) := ⟨h7_⟩
  have n8_ : Aside0 (gb198 ≠ gb202) := ⟨h8_⟩
  have n9_ : Aside0 (gb202 ≠ gb198) := ⟨h9_⟩
  have n10_ : Aside0 (Below w.heap.size w w9) := ⟨h10_⟩
  clear BK197
  clear BK198
  clear HB
  clear h0_ h1_ h2_ h3_ h4_ h5_ h6_ h7_ h8_ h9_ h10_
  have HO201 := n0_
  have BK197 := n1_
  have BK198 := n2_
  have BK202 := n3_
  have GW202 := n4_
  have GE202 := n5_
  have NB197_202 := n6_
  have NB202_197 := n7_
  have NB198_202 := n8_
  have NB202_198 := n9_
  have HB := n10_
  clear n0_ n1_ n2_ n3_ n4_ n5_ n6_ n7_ n8_ n9_ n10_
  have hHeld : w9.cell? ⟨gb197, 0, none⟩ = some (.bool a0_0) ∧ w9.cell? ⟨gb197, 1, none⟩ = some (.bool a0_1) ∧ w9.cell? ⟨gb197, 2, none⟩ = some (.bool a0_2) ∧ w9.cell? ⟨gb197, 3, none⟩ = some (.string a0_3) ∧ w9.cell? ⟨gb197, 4, none⟩ = some (.slice A0_4 l0_4.length c0_4) ∧ w9.cell? ⟨gb197, 5, none⟩ = some (.slice A0_5 l0_5.length c0_5) := hS_
  obtain ⟨Ao10, co10, eo10⟩ := Kd.R_slice HO201.out
  (first | subst eo10 | (injection eo10 with f1_ f2_ f3_; have f4_ := f1_.symm; have f5_ := f3_.symm; clear f1_ f2_ f3_; subst f4_; subst f5_))
  refine norm_ (a' := ?_) ?_ ?_
  rotate_left
  · simp only [putAll, Act.put, List.setIfInBounds_toArray, List.set_cons_zero, List.set_cons_succ]
    rfl
  refine one_ (i := 13) (N := none) #[true, true, true, true, true, true, true, true, true, true, true, true, true, true] rfl rfl (one_of HT_.out (by kernel_rfl)) (by decide) (fun K hK => ?_)
  have hs11 : w9.cell? ⟨gb202, 0, none⟩ = some (.bool false) := (blk_cell BK202.out 0).trans rfl
  have hfs11 := blk_frozen BK202.out 0
  have hns11_0 := NB197_202.out
  have hns11_1 := NB198_202.out
  have hms11_0 := NB202_197.out
  have hms11_1 := NB202_198.out
  have hs12 : w9.cell? ⟨gb202, 1, none⟩ = some (.bool false) := (blk_cell BK202.out 1).trans rfl
  have hfs12 := blk_frozen BK202.out 1
  have hns12_0 := NB197_202.out
  have hns12_1 := NB198_202.out
  have hms12_0 := NB202_197.out
  have hms12_1 := NB202_198.out
  have hs13 : w9.cell? ⟨gb202, 2, none⟩ = some (.bool false) := (blk_cell BK202.out 2).trans rfl
  have hfs13 := blk_frozen BK202.out 2
  have hns13_0 := NB197_202.out
  have hns13_1 := NB198_202.out
  have hms13_0 := NB202_197.out
  have hms13_1 := NB202_198.out
  have hs14 : w9.cell? ⟨gb202, 3, none⟩ = some (.string (⟨#[]⟩ : ByteArray)) := (blk_cell BK202.out 3).trans rfl
  have hfs14 := blk_frozen BK202.out 3
  have hns14_0 := NB197_202.out
  have hns14_1 := NB198_202.out
  have hms14_0 := NB202_197.out
  have hms14_1 := NB202_198.out
  have hs15 : w9.cell? ⟨gb202, 4, none⟩ = some (.slice none 0 0) := (blk_cell BK202.out 4).trans rfl
  have hfs15 := blk_frozen BK202.out 4
  have hns15_0 := NB197_202.out
  have hns15_1 := NB198_202.out
  have hms15_0 := NB202_197.out
  have hms15_1 := NB202_198.out
  have hs16 : w9.cell? ⟨gb202, 5, none⟩ = some (.slice none 0 0) := (blk_cell BK202.out 5).trans rfl
  have hfs16 := blk_frozen BK202.out 5
  have hns16_0 := NB197_202.out
  have hns16_1 := NB198_202.out
  have hms16_0 := NB202_197.out
  have hms16_1 := NB202_198.out
  refine skip_ (w1 := ?_) (by rfl) rfl ?_ ?_
  rotate_left
  · go_simp
    rfl
  refine hK.out _ _ ⟨((cell_far (p := ⟨gb202, _, none⟩) NB197_202.out _).trans (((cell_far (p := ⟨gb202, _, none⟩) NB197_202.out _).trans (((cell_far (p := ⟨gb202, _, none⟩) NB197_202.out _).trans (((cell_far (p := ⟨gb202, _, none⟩) NB197_202.out _).trans (((cell_far (p := ⟨gb202, _, none⟩) NB197_202.out _).trans (((cell_far (p := ⟨gb202, _, none⟩) NB197_202.out _).trans (hHeld.1)))))))))))), ((cell_far (p := ⟨gb202, _, none⟩) NB197_202.out _).trans (((cell_far (p := ⟨gb202, _, none⟩) NB197_202.out _).trans (((cell_far (p := ⟨gb202, _, none⟩) NB197_202.out _).trans (((cell_far (p := ⟨gb202, _, none⟩) NB197_202.out _).trans (((cell_far (p := ⟨gb202, _, none⟩) NB197_202.out _).trans (((cell_far (p := ⟨gb202, _, none⟩) NB197_202.out _).trans (hHeld.2.1)))))))))))), ((cell_far (p := ⟨gb202, _, none⟩) NB197_202.out _).trans (((cell_far (p := ⟨gb202, _, none⟩) NB197_202.out _).trans (((cell_far (p := ⟨gb202, _, none⟩) NB197_202.out _).trans (((cell_far (p := ⟨gb202, _, none⟩) NB197_202.out _).trans (((cell_far (p := ⟨gb202, _, none⟩) NB197_202.out _).trans (((cell_far (p := ⟨gb202, _, none⟩) NB197_202.out _).trans (hHeld.2.2.1)))))))))))), ((cell_far (p := ⟨gb202, _, none⟩) NB197_202.out _).trans (((cell_far (p := ⟨gb202, _, none⟩) NB197_202.out _).trans (((cell_far (p := ⟨gb202, _, none⟩) NB197_202.out _).trans (((cell_far (p := ⟨gb202, _, none⟩) NB197_202.out _).trans (((cell_far (p := ⟨gb202, _, none⟩) NB197_202.out _).trans (((cell_far (p := ⟨gb202, _, none⟩) NB197_202.out _).trans (hHeld.2.2.2.1)))))))))))), ((cell_far (p := ⟨gb202, _, none⟩) NB197_202.out _).trans (((cell_far (p := ⟨gb202, _, none⟩) NB197_202.out _).trans (((cell_far (p := ⟨gb202, _, none⟩) NB197_202.out _).trans (((cell_far (p := ⟨gb202, _, none⟩) NB197_202.out _).trans (((cell_far (p := ⟨gb202, _, none⟩) NB197_202.out _).trans (((cell_far (p := ⟨gb202, _, none⟩) NB197_202.out _).trans (hHeld.2.2.2.2.1)))))))))))), ((cell_far (p := ⟨gb202, _, none⟩) NB197_202.out _).trans (((cell_far (p := ⟨gb202, _, none⟩) NB197_202.out _).trans (((cell_far (p := ⟨gb202, _, none⟩) NB197_202.out _).trans (((cell_far (p := ⟨gb202, _, none⟩) NB197_202.out _).trans (((cell_far (p := ⟨gb202, _, none⟩) NB197_202.out _).trans (((cell_far (p := ⟨gb202, _, none⟩) NB197_202.out _).trans (hHeld.2.2.2.2.2))))))))))))⟩ (fun hHeld => ?_)
  clear hK K
  refine done_ (done_of HT_.out (by kernel_rfl)) ?_
  try go_wp2
  go_loopg [4] k (fun kq v4 w' => ∃ (x4_1 : Int) (x203005_1 : List (S109)) (u203005 : Value), v4 = .int .i64 x4_1 ∧ Aside0 (dobbylaw14_Own.l0 kq x4_1 a0_0 a0_1 a0_2 a0_3 l0_4 l0_5 a0_0 a0_1 a0_2 a0_3 t199 x203005_1 = some (r1, r2, r3, r4, r5, r6)) ∧ Aside0 (kq ≤ k) ∧ Aside0 (Kd.R k121 121 w' w.heap.size (fun _ => True) (.slice Ao10 t199.length co10) t199) ∧ Aside0 (Kd.S k109 109 w' w.heap.size (fun k_ => some k_ ≠ ((.slice Ao10 t199.length co10) : Value).ownBlock) u203005 x203005_1) ∧ Aside0 (w'.heap[gb197]? = some (.cells #[.bool a0_0, .bool a0_1, .bool a0_2, .string a0_3, (.slice A0_4 l0_4.length c0_4), (.slice A0_5 l0_5.length c0_5)] 25 (0, 0))) ∧ Aside0 (w'.heap[gb198]? = some (.cells #[.bool false, .bool false, .bool false, .string (⟨#[]⟩ : ByteArray), (.slice none 0 0), (.slice none 0 0)] 33 (0, 0))) ∧ Aside0 (w'.heap[gb202]? = some (.cells #[.bool a0_0, .bool a0_1, .bool a0_2, .string a0_3, (.slice Ao10 t199.length co10), u203005] 33 (0, 0))) ∧ Aside0 (Below w.heap.size w w'))
  case atStart => exact ⟨(0), (([] : List (S109))), (.slice none 0 0), (by first | rfl | (simp; done) | (simp [*]; done)), H', ⟨Nat.le_refl _⟩, ⟨by (with_reducible repeat (first | apply Kd.R_alloc | apply Kd.R_drewN | apply Kd.R_drew)); exact Kd.R_mono (Kd.R_far (p := ⟨gb202, 5, none⟩) (Kd.R_far (p := ⟨gb202, 4, none⟩) (Kd.R_far (p := ⟨gb202, 3, none⟩) (Kd.R_far (p := ⟨gb202, 2, none⟩) (Kd.R_far (p := ⟨gb202, 1, none⟩) (Kd.R_far (p := ⟨gb202, 0, none⟩) (Kd.R_types HO201.out BK202.out (by decide)) (fun _ hk => hk.2) (.bool a0_0)) (fun _ hk => hk.2) (.bool a0_1)) (fun _ hk => hk.2) (.bool a0_2)) (fun _ hk => hk.2) (.string a0_3)) (fun _ hk => hk.2) (.slice Ao10 t199.length co10)) (fun _ hk => hk.2) (.slice none 0 0)) (fun _ hk => trivial)⟩, ⟨by first | exact Kd.S_nil _ _ _ _ _ | exact Kd.N_nil _ _ _ _ _ | exact Kd.V_nil _ _ _ _ _ | exact Kd.Q_nil _ _ _ _ _ | exact Kd.R_nil _ _ _ _ _⟩, ⟨by (with_reducible repeat (first | refine blk_drewN ?_ _ | refine blk_drew ?_ | refine blk_alloc ?_ _)); refine blk_far ?_ NB197_202.out _; (with_reducible repeat (first | refine blk_drewN ?_ _ | refine blk_drew ?_ | refine blk_alloc ?_ _)); refine blk_far ?_ NB197_202.out _; (with_reducible repeat (first | refine blk_drewN ?_ _ | refine blk_drew ?_ | refine blk_alloc ?_ _)); refine blk_far ?_ NB197_202.out _; (with_reducible repeat (first | refine blk_drewN ?_ _ | refine blk_drew ?_ | refine blk_alloc ?_ _)); refine blk_far ?_ NB197_202.out _; (with_reducible repeat (first | refine blk_drewN ?_ _ | refine blk_drew ?_ | refine blk_alloc ?_ _)); refine blk_far ?_ NB197_202.out _; (with_reducible repeat (first | refine blk_drewN ?_ _ | refine blk_drew ?_ | refine blk_alloc ?_ _)); refine blk_far ?_ NB197_202.out _; (with_reducible repeat (first | refine blk_drewN ?_ _ | refine blk_drew ?_ | refine blk_alloc ?_ _)); exact BK197.out⟩, ⟨by (with_reducible repeat (first | refine blk_drewN ?_ _ | refine blk_drew ?_ | refine blk_alloc ?_ _)); refine blk_far ?_ NB198_202.out _; (with_reducible repeat (first | refine blk_drewN ?_ _ | refine blk_drew ?_ | refine blk_alloc ?_ _)); refine blk_far ?_ NB198_202.out _; (with_reducible repeat (first | refine blk_drewN ?_ _ | refine blk_drew ?_ | refine blk_alloc ?_ _)); refine blk_far ?_ NB198_202.out _; (with_reducible repeat (first | refine blk_drewN ?_ _ | refine blk_drew ?_ | refine blk_alloc ?_ _)); refine blk_far ?_ NB198_202.out _; (with_reducible repeat (first | refine blk_drewN ?_ _ | refine blk_drew ?_ | refine blk_alloc ?_ _)); refine blk_far ?_ NB198_202.out _; (with_reducible repeat (first | refine blk_drewN ?_ _ | refine blk_drew ?_ | refine blk_alloc ?_ _)); refine blk_far ?_ NB198_202.out _; (with_reducible repeat (first | refine blk_drewN ?_ _ | refine blk_drew ?_ | refine blk_alloc ?_ _)); exact BK198.out⟩, ⟨by (with_reducible repeat (first | refine blk_drewN ?_ _ | refine blk_drew ?_ | refine blk_alloc ?_ _)); refine blk_put (cs := #[.bool a0_0, .bool a0_1, .bool a0_2, .string a0_3, .slice Ao10 t199.length co10, .slice none 0 0]) ?_ 5 _ rfl; (with_reducible repeat (first | refine blk_drewN ?_ _ | refine blk_drew ?_ | refine blk_alloc ?_ _)); refine blk_put (cs := #[.bool a0_0, .bool a0_1, .bool a0_2, .string a0_3, .slice none 0 0, .slice none 0 0]) ?_ 4 _ rfl; (with_reducible repeat (first | refine blk_drewN ?_ _ | refine blk_drew ?_ | refine blk_alloc ?_ _)); refine blk_put (cs := #[.bool a0_0, .bool a0_1, .bool a0_2, .string (⟨#[]⟩ : ByteArray), .slice none 0 0, .slice none 0 0]) ?_ 3 _ rfl; (with_reducible repeat (first | refine blk_drewN ?_ _ | refine blk_drew ?_ | refine blk_alloc ?_ _)); refine blk_put (cs := #[.bool a0_0, .bool a0_1, .bool false, .string (⟨#[]⟩ : ByteArray), .slice none 0 0, .slice none 0 0]) ?_ 2 _ rfl; (with_reducible repeat (first | refine blk_drewN ?_ _ | refine blk_drew ?_ | refine blk_alloc ?_ _)); refine blk_put (cs := #[.bool a0_0, .bool false, .bool false, .string (⟨#[]⟩ : ByteArray), .slice none 0 0, .slice none 0 0]) ?_ 1 _ rfl; (with_reducible repeat (first | refine blk_drewN ?_ _ | refine blk_drew ?_ | refine blk_alloc ?_ _)); refine blk_put (cs := #[.bool false, .bool false, .bool false, .string (⟨#[]⟩ : ByteArray), .slice none 0 0, .slice none 0 0]) ?_ 0 _ rfl; (with_reducible repeat (first | refine blk_drewN ?_ _ | refine blk_drew ?_ | refine blk_alloc ?_ _)); exact BK202.out⟩, ⟨by repeat (first | (with_reducible first | exact HB.out | apply below_alloc | apply pw_below_drewN | apply below_drew1 | refine below_set ?_ GE197.out | refine below_set ?_ GE198.out | refine below_set ?_ GE202.out) | exact HB.out)⟩⟩
  case round =>
    clear H'
    try clear c1
    try clear p2
    try clear c6
    try clear c10
    obtain ⟨x4_1, x203005_1, u203005, rfl, HA, HK1, HO_203004, HO_203005, BK197, BK198, BK202, HB⟩ := hrel
    cases gk with
    | zero => exact absurd HA.out (by simp [dobbylaw14_Own.l0])
    | succ k1 =>
      have H := HA.out
      clear HA
      simp only [dobbylaw14_Own.l0] at H
      by_cases c17 : x4_1 < (l0_5.length : Int)
      · rw [if_pos c17] at H
        have c17b0 : decide (x4_1 < (l0_5.length : Int)) = true := decide_eq_true c17
        clear c17
        by_cases c18 : 0 ≤ x4_1
        · rw [if_pos c18] at H
          have c18b0 : decide (0 ≤ x4_1) = true := decide_eq_true c18
          clear c18
          replace H := Option.bind_eq_some_iff.mp H
          obtain ⟨t205, A190, H⟩ := H
          replace H : (if x203005_1.length < 4398046511104 then (dobbylaw14_Own.l0 k1 (wrap64 (x4_1 + 1)) a0_0 a0_1 a0_2 a0_3 l0_4 l0_5 a0_0 a0_1 a0_2 a0_3 t199 (x203005_1 ++ [(⟨(rd_T103 l0_5 x4_1).f0, t205⟩ : S109)])) else (none)) = some (r1, r2, r3, r4, r5, r6) := H
          have A19 := Aside0.mk A190
          clear A190
          by_cases c20 : x203005_1.length < 4398046511104
          · rw [if_pos c20] at H
            have LMc20 := Aside0.mk c20
            clear c20
            obtain ⟨y208, hy208⟩ : ∃ y_ : List (S109), y_ = (x203005_1 ++ [(⟨(rd_T103 l0_5 x4_1).f0, t205⟩ : S109)]) := ⟨_, rfl⟩
            replace H : (dobbylaw14_Own.l0 k1 (wrap64 (x4_1 + 1)) a0_0 a0_1 a0_2 a0_3 l0_4 l0_5 a0_0 a0_1 a0_2 a0_3 t199 y208) = some (r1, r2, r3, r4, r5, r6) := by first | (rw [hy208]; with_reducible exact H) | (have H2_ := (Option.bind_some _ _).symm.trans H; rw [hy208]; with_reducible exact H2_) | (have H2_ := (Option.bind_some _ _).symm.trans H; with_reducible exact H2_) | with_reducible exact H | (rw [hy208]; exact H) | exact H
            have Ny208 := Aside0.mk hy208
            clear hy208
            have H' := Aside0.mk H
            clear H
            have hnb21 := NB197_198.out
            have hnc21 := NB198_197.out
            have hnb22 := NB197_202.out
            have hnc22 := NB202_197.out
            have hcz23_0 : wr.cell? ⟨gb197, 0, none⟩ = some (.bool a0_0) := (blk_cell BK197.out 0).trans rfl
            have hcz23_1 : wr.cell? ⟨gb197, 1, none⟩ = some (.bool a0_1) := (blk_cell BK197.out 1).trans rfl
            have hcz23_2 : wr.cell? ⟨gb197, 2, none⟩ = some (.bool a0_2) := (blk_cell BK197.out 2).trans rfl
            have hcz23_3 : wr.cell? ⟨gb197, 3, none⟩ = some (.string a0_3) := (blk_cell BK197.out 3).trans rfl
            have hcz23_4 : wr.cell? ⟨gb197, 4, none⟩ = some (.slice A0_4 l0_4.length c0_4) := (blk_cell BK197.out 4).trans rfl
            have hcz23_5 : wr.cell? ⟨gb197, 5, none⟩ = some (.slice A0_5 l0_5.length c0_5) := (blk_cell BK197.out 5).trans rfl
            have hfz23_0 := blk_frozen BK197.out 0
            have hfz23_1 := blk_frozen BK197.out 1
            have hfz23_2 := blk_frozen BK197.out 2
            have hfz23_3 := blk_frozen BK197.out 3
            have hfz23_4 := blk_frozen BK197.out 4
            have hfz23_5 := blk_frozen BK197.out 5
            try go_wp2
            have n0_ := Aside0.mk (Kd.R_drew HO_203004.out)
            have n1_ := Aside0.mk (Kd.S_drew HO_203005.out)
            have n2_ := Aside0.mk (blk_drew BK197.out)
            have n3_ := Aside0.mk (blk_drew BK198.out)
            have n4_ := Aside0.mk (blk_drew BK202.out)
            have n5_ := Aside0.mk (below_drew1 HB.out)
            clear HO_203004
            clear HO_203005
            clear BK197
            clear BK198
            clear BK202
            clear HB
            have HO_203004 := n0_
            have HO_203005 := n1_
            have BK197 := n2_
            have BK198 := n3_
            have BK202 := n4_
            have HB := n5_
            clear n0_ n1_ n2_ n3_ n4_ n5_
            have p203 : 0 ≤ (x4_1 : Int) := of_decide_eq_true (by first | (with_reducible assumption) | assumption)
            have q203 : x4_1 < (l0_5.length : Int) := of_decide_eq_true (by first | (with_reducible assumption) | assumption)
            obtain ⟨ad203, A203_1, c203_1, e203, hx203_0, hx203_1, hl203_1, hi203_1⟩ := at_T103 HR0_5.out x4_1 p203 q203
            have hw203_1 := hx203_1
            have hw203_0 := hx203_0
            cases e203
            replace hx203_0 := (HB.out.cell (World.block_lt_of_cell? w _ hx203_0)).trans hx203_0
            replace hx203_1 := (HB.out.cell (World.block_lt_of_cell? w _ hx203_1)).trans hx203_1
            have HR203_1 := Aside0.mk hi203_1
            have HC203_1 := Aside0.mk hl203_1
            clear hi203_1 hl203_1
            replace p203 := eq_true p203
            replace q203 := eq_true q203
            have p204 : 0 ≤ (x4_1 : Int) := of_decide_eq_true (by first | (with_reducible assumption) | assumption)
            have q204 : x4_1 < (l0_5.length : Int) := of_decide_eq_true (by first | (with_reducible assumption) | assumption)
            obtain ⟨ad204, A204_1, c204_1, e204, hx204_0, hx204_1, hl204_1, hi204_1⟩ := at_T103 HR0_5.out x4_1 p204 q204
            have hw204_1 := hx204_1
            have hw204_0 := hx204_0
            obtain rfl : ad203 = ad204 := (by injection e204)
            replace hx204_0 := (HB.out.cell (World.block_lt_of_cell? w _ hx204_0)).trans hx204_0
            replace hx204_1 := (HB.out.cell (World.block_lt_of_cell? w _ hx204_1)).trans hx204_1
            have HR204_1 := Aside0.mk hi204_1
            have HC204_1 := Aside0.mk hl204_1
            clear hi204_1 hl204_1
            replace p204 := eq_true p204
            replace q204 := eq_true q204
            have ea_ := Option.some.inj (hx203_1.symm.trans hx204_1)
            injection ea_ with ea_ en_ ec_
            subst ea_
            subst ec_
            clear en_
            refine start_ (n := 20) (S := fun w' => w'.cell? ⟨gb202, 0, none⟩ = some (.bool a0_0) ∧ w'.cell? ⟨gb202, 1, none⟩ = some (.bool a0_1) ∧ w'.cell? ⟨gb202, 2, none⟩ = some (.bool a0_2) ∧ w'.cell? ⟨gb202, 3, none⟩ = some (.string a0_3) ∧ w'.cell? ⟨gb202, 4, none⟩ = some (.slice Ao10 t199.length co10) ∧ w'.cell? ⟨gb202, 5, none⟩ = some (u203005) ∧ w'.cell? ⟨gb197, 0, none⟩ = some (.bool a0_0) ∧ w'.cell? ⟨gb197, 1, none⟩ = some (.bool a0_1) ∧ w'.cell? ⟨gb197, 2, none⟩ = some (.bool a0_2) ∧ w'.cell? ⟨gb197, 3, none⟩ = some (.string a0_3) ∧ w'.cell? ⟨gb197, 4, none⟩ = some (.slice A0_4 l0_4.length c0_4) ∧ w'.cell? ⟨gb197, 5, none⟩ = some (.slice (some ad203) l0_5.length c0_5) ∧ w'.cell? (ad203.add ((x4_1).toNat * 2)) = some (.int .u32 ((rd_T103 l0_5 x4_1).f0)) ∧ w'.cell? ⟨(ad203.add ((x4_1).toNat * 2)).block, (ad203.add ((x4_1).toNat * 2)).off + 1, none⟩ = some (.slice A203_1 ((rd_T103 l0_5 x4_1).f1).length c203_1) ∧ w'.cell? (ad203.add ((x4_1).toNat * 2)) = some (.int .u32 ((rd_T103 l0_5 x4_1).f0)) ∧ w'.cell? ⟨(ad203.add ((x4_1).toNat * 2)).block, (ad203.add ((x4_1).toNat * 2)).off + 1, none⟩ = some (.slice A203_1 ((rd_T103 l0_5 x4_1).f1).length c203_1)) (ds := [19]) #[false, false, false, false, false, false, false, false, false, false, false, false, false, false, false, false, false, false, false, false] (by kernel_rfl) rfl rfl ⟨(blk_cell BK202.out 0).trans rfl, (blk_cell BK202.out 1).trans rfl, (blk_cell BK202.out 2).trans rfl, (blk_cell BK202.out 3).trans rfl, (blk_cell BK202.out 4).trans rfl, (blk_cell BK202.out 5).trans rfl, (blk_cell BK197.out 0).trans rfl, (blk_cell BK197.out 1).trans rfl, (blk_cell BK197.out 2).trans rfl, (blk_cell BK197.out 3).trans rfl, (blk_cell BK197.out 4).trans rfl, (blk_cell BK197.out 5).trans rfl, ((HB.out.cell (World.block_lt_of_cell? w _ hw203_0)).trans hw203_0), ((HB.out.cell (World.block_lt_of_cell? w _ hw203_1)).trans hw203_1), ((HB.out.cell (World.block_lt_of_cell? w _ hw204_0)).trans hw204_0), ((HB.out.cell (World.block_lt_of_cell? w _ hw204_1)).trans hw204_1)⟩ (fun hHeld => ?_); refine with_tabW dobbylaw14_Own.tab5 dobbylaw14_Own.bits5 (fun HT_ HW_ => ?_)
            generalize wr.drew = w24 at HO_203004 HO_203005 BK197 BK198 BK202 HB HR203_1 HR204_1 hx203_0 hx203_1 hx204_0 hx204_1 hHeld ⊢
            refine pure_ (i := 0) (N := some 24) (v := ?_) (a' := ?_) #[true, false, false, false, false, false, false, false, false, false, false, false, false, false, false, false, false, false, false, false] rfl rfl (any_of HT_.out (by kernel_rfl)) (fun _ _ _ h => h) (Or.inl ⟨by rfl, ?_⟩) ?_ ?_
            rotate_left
            · intro w'
              go_simp
              with_reducible rfl
            rotate_left
            · simp only [Act.put, List.setIfInBounds_toArray, List.set_cons_zero, List.set_cons_succ, i64_w, i32_w]
              rfl
            refine pure_ (i := 2) (N := some 26) (v := ?_) (a' := ?_) #[true, false, true, false, false, false, false, false, false, false, false, false, false, false, false, false, false, false, false, false] rfl rfl (any_of HT_.out (by kernel_rfl)) (fun _ _ _ h => h) (Or.inl ⟨by rfl, ?_⟩) ?_ ?_
            rotate_left
            · intro w'
              go_simp
              with_reducible rfl
            rotate_left
            · simp only [Act.put, List.setIfInBounds_toArray, List.set_cons_zero, List.set_cons_succ, i64_w, i32_w]
              rfl
            refine pure_ (i := 4) (N := some 28) (v := ?_) (a' := ?_) #[true, false, true, false, true, false, false, false, false, false, false, false, false, false, false, false, false, false, false, false] rfl rfl (any_of HT_.out (by kernel_rfl)) (fun _ _ _ h => h) (Or.inl ⟨by rfl, ?_⟩) ?_ ?_
            rotate_left
            · intro w'
              go_simp
              with_reducible rfl
            rotate_left
            · simp only [Act.put, List.setIfInBounds_toArray, List.set_cons_zero, List.set_cons_succ, i64_w, i32_w]
              rfl
            refine pure_ (i := 8) (N := some 32) (v := ?_) (a' := ?_) #[true, false, true, false, true, false, false, false, true, false, false, false, false, false, false, false, false, false, false, false] rfl rfl (any_of HT_.out (by kernel_rfl)) (fun _ _ _ h => h) (Or.inl ⟨by rfl, ?_⟩) ?_ ?_
            rotate_left
            · intro w'
              go_simp
              with_reducible rfl
            rotate_left
            · simp only [Act.put, List.setIfInBounds_toArray, List.set_cons_zero, List.set_cons_succ, i64_w, i32_w]
              rfl
            refine pure_ (i := 10) (N := some 34) (v := ?_) (a' := ?_) #[true, false, true, false, true, false, false, false, true, false, true, false, false, false, false, false, false, false, false, false] rfl rfl (any_of HT_.out (by kernel_rfl)) (fun _ _ _ h => h) (Or.inl ⟨by rfl, ?_⟩) ?_ ?_
            rotate_left
            · intro w'
              go_simp
              with_reducible rfl
            rotate_left
            · simp only [Act.put, List.setIfInBounds_toArray, List.set_cons_zero, List.set_cons_succ, i64_w, i32_w]
              rfl
            refine take_ (i := 1) (N := some 25) (v := ?_) (a' := ?_) #[true, true, true, false, true, false, false, false, true, false, true, false, false, false, false, false, false, false, false, false] rfl rfl (take_ofW HT_.out HW_.out (by kernel_rfl)) (fun _ _ _ h => h) (Or.inl ⟨by rfl, ?_⟩) hHeld ?_ ?_
            rotate_left
            · rintro w' ⟨s0, s1, s2, s3, s4, s5, s6, s7, s8, s9, s10, s11, s12, s13, s14, s15⟩
              go_simp
              with_reducible rfl
            rotate_left
            · simp only [Act.put, List.setIfInBounds_toArray, List.set_cons_zero, List.set_cons_succ, i64_w, i32_w]
              rfl
            refine take_ (i := 3) (N := some 27) (v := ?_) (a' := ?_) #[true, true, true, true, true, false, false, false, true, false, true, false, false, false, false, false, false, false, false, false] rfl rfl (take_ofW HT_.out HW_.out (by kernel_rfl)) (fun _ _ _ h => h) (Or.inl ⟨by rfl, ?_⟩) hHeld ?_ ?_
            rotate_left
            · rintro w' ⟨s0, s1, s2, s3, s4, s5, s6, s7, s8, s9, s10, s11, s12, s13, s14, s15⟩
              go_simp
              with_reducible rfl
            rotate_left
            · simp only [Act.put, List.setIfInBounds_toArray, List.set_cons_zero, List.set_cons_succ, i64_w, i32_w]
              rfl
            refine pure_ (i := 5) (N := some 29) (v := ?_) (a' := ?_) #[true, true, true, true, true, true, false, false, true, false, true, false, false, false, false, false, false, false, false, false] rfl rfl (any_of HT_.out (by kernel_rfl)) (fun _ _ _ h => h) (Or.inl ⟨by rfl, ?_⟩) ?_ ?_
            rotate_left
            · intro w'
              go_simp
              with_reducible rfl
            rotate_left
            · simp only [Act.put, List.setIfInBounds_toArray, List.set_cons_zero, List.set_cons_succ, i64_w, i32_w]
              rfl
            refine pure_ (i := 6) (N := some 30) (v := ?_) (a' := ?_) #[true, true, true, true, true, true, true, false, true, false, true, false, false, false, false, false, false, false, false, false] rfl rfl (any_of HT_.out (by kernel_rfl)) (fun _ _ _ h => h) (Or.inl ⟨by rfl, ?_⟩) ?_ ?_
            rotate_left
            · intro w'
              go_simp
              with_reducible rfl
            rotate_left
            · simp only [Act.put, List.setIfInBounds_toArray, List.set_cons_zero, List.set_cons_succ, i64_w, i32_w]
              rfl
            refine take_ (i := 7) (N := some 31) (v := ?_) (a' := ?_) #[true, true, true, true, true, true, true, true, true, false, true, false, false, false, false, false, false, false, false, false] rfl rfl (take_ofW HT_.out HW_.out (by kernel_rfl)) (fun _ _ _ h => h) (Or.inl ⟨by rfl, ?_⟩) hHeld ?_ ?_
            rotate_left
            · rintro w' ⟨s0, s1, s2, s3, s4, s5, s6, s7, s8, s9, s10, s11, s12, s13, s14, s15⟩
              go_simp
              with_reducible rfl
            rotate_left
            · simp only [Act.put, List.setIfInBounds_toArray, List.set_cons_zero, List.set_cons_succ, i64_w, i32_w]
              rfl
            refine take_ (i := 9) (N := some 33) (v := ?_) (a' := ?_) #[true, true, true, true, true, true, true, true, true, true, true, false, false, false, false, false, false, false, false, false] rfl rfl (take_ofW HT_.out HW_.out (by kernel_rfl)) (fun _ _ _ h => h) (Or.inl ⟨by rfl, ?_⟩) hHeld ?_ ?_
            rotate_left
            · rintro w' ⟨s0, s1, s2, s3, s4, s5, s6, s7, s8, s9, s10, s11, s12, s13, s14, s15⟩
              go_simp
              with_reducible rfl
            rotate_left
            · simp only [Act.put, List.setIfInBounds_toArray, List.set_cons_zero, List.set_cons_succ, i64_w, i32_w]
              rfl
            refine pure_ (i := 11) (N := some 35) (v := ?_) (a' := ?_) #[true, true, true, true, true, true, true, true, true, true, true, true, false, false, false, false, false, false, false, false] rfl rfl (any_of HT_.out (by kernel_rfl)) (fun _ _ _ h => h) (Or.inl ⟨by rfl, ?_⟩) ?_ ?_
            rotate_left
            · intro w'
              go_simp
              with_reducible rfl
            rotate_left
            · simp only [Act.put, List.setIfInBounds_toArray, List.set_cons_zero, List.set_cons_succ, i64_w, i32_w]
              rfl
            refine pure_ (i := 12) (N := some 36) (v := ?_) (a' := ?_) #[true, true, true, true, true, true, true, true, true, true, true, true, true, false, false, false, false, false, false, false] rfl rfl (any_of HT_.out (by kernel_rfl)) (fun _ _ _ h => h) (Or.inl ⟨by rfl, ?_⟩) ?_ ?_
            rotate_left
            · intro w'
              go_simp
              with_reducible rfl
            rotate_left
            · simp only [Act.put, List.setIfInBounds_toArray, List.set_cons_zero, List.set_cons_succ, i64_w, i32_w]
              rfl
            refine take_ (i := 13) (N := some 37) (v := ?_) (a' := ?_) #[true, true, true, true, true, true, true, true, true, true, true, true, true, true, false, false, false, false, false, false] rfl rfl (take_ofW HT_.out HW_.out (by kernel_rfl)) (fun _ _ _ h => h) (Or.inl ⟨by rfl, ?_⟩) hHeld ?_ ?_
            rotate_left
            · rintro w' ⟨s0, s1, s2, s3, s4, s5, s6, s7, s8, s9, s10, s11, s12, s13, s14, s15⟩
              go_simp
              with_reducible rfl
            rotate_left
            · simp only [Act.put, List.setIfInBounds_toArray, List.set_cons_zero, List.set_cons_succ, i64_w, i32_w]
              rfl
            refine one_ (i := 14) (N := some 38) #[true, true, true, true, true, true, true, true, true, true, true, true, true, true, true, false, false, false, false, false] rfl rfl (one_of HT_.out (by kernel_rfl)) (by decide) (fun K hK => ?_)
            refine goes_ Tryd.func62 (by kernel_rfl) rfl #[.slice A203_1 ((rd_T103 l0_5 x4_1).f1).length c203_1] (by rfl) rfl rfl (by (try simp only [List.map_toArray, List.map_cons, List.map_nil]); first | done | rfl | (simp only [List.length_drop, List.length_take]; rfl)) ?_
            with_reducible refine (dobbylaw14_ownList.calls k1 _ _ ((rd_T103 l0_5 x4_1).f1) t205 _ ?side1 ?side2 A19.out).mono ?_
            (case side1 => repeat (first | exact (Kd.C_below HR204_1.out HB.out) | (with_reducible refine Kd.C_alloc ?_ _) | (with_reducible refine Kd.C_drewN ?_ _) | (with_reducible refine Kd.C_drew ?_)))
            (case side2 => exact HC204_1.out)
            rintro e w25 ⟨v206, rfl, ho0, hb⟩
            refine ⟨_, rfl, ?_⟩
            have n0_ := Aside0.mk (Kd.R_elder' (by (with_reducible repeat (first | apply Kd.R_alloc | apply Kd.R_drewN | apply Kd.R_drew)); exact HO_203004.out) (Kd.R_base ho0) hb)
            have n1_ := Aside0.mk (Kd.S_elder' (by (with_reducible repeat (first | apply Kd.S_alloc | apply Kd.S_drewN | apply Kd.S_drew)); exact HO_203005.out) (Kd.R_base ho0) hb)
            have n2_ := Aside0.mk (Kd.R_lower (Kd.R_new' ho0 (Kd.R_lt (by (with_reducible repeat (first | apply Kd.R_alloc | apply Kd.R_drewN | apply Kd.R_drew)); exact HO_203004.out))) (below_size (by repeat (first | (with_reducible first | exact HB.out | apply below_alloc | apply pw_below_drewN | apply below_drew1 | refine below_set ?_ GE197.out | refine below_set ?_ GE198.out | refine below_set ?_ GE202.out) | exact HB.out))))
            have n3_ := Aside0.mk (blk_below (g := gb197) (o := .cells #[.bool a0_0, .bool a0_1, .bool a0_2, .string a0_3, .slice A0_4 l0_4.length c0_4, .slice (some ad203) l0_5.length c0_5] 25 (0, 0)) (by (with_reducible repeat (first | refine blk_drewN ?_ _ | refine blk_drew ?_ | refine blk_alloc ?_ _)); exact BK197.out) hb)
            have n4_ := Aside0.mk (blk_below (g := gb198) (o := .cells #[.bool false, .bool false, .bool false, .string (⟨#[]⟩ : ByteArray), .slice none 0 0, .slice none 0 0] 33 (0, 0)) (by (with_reducible repeat (first | refine blk_drewN ?_ _ | refine blk_drew ?_ | refine blk_alloc ?_ _)); exact BK198.out) hb)
            have n5_ := Aside0.mk (blk_below (g := gb202) (o := .cells #[.bool a0_0, .bool a0_1, .bool a0_2, .string a0_3, .slice Ao10 t199.length co10, u203005] 33 (0, 0)) (by (with_reducible repeat (first | refine blk_drewN ?_ _ | refine blk_drew ?_ | refine blk_alloc ?_ _)); exact BK202.out) hb)
            have n6_ := Aside0.mk (below_step (by repeat (first | (with_reducible first | exact HB.out | apply below_alloc | apply pw_below_drewN | apply below_drew1 | refine below_set ?_ GE197.out | refine below_set ?_ GE198.out | refine below_set ?_ GE202.out) | exact HB.out)) hb)
            clear HO_203004
            clear HO_203005
            clear BK197
            clear BK198
            clear BK202
            clear HB
            have HO_203004 := n0_
            have HO_203005 := n1_
            have HO207 := n2_
            have BK197 := n3_
            have BK198 := n4_
            have BK202 := n5_
            have HB := n6_
            clear n0_ n1_ n2_ n3_ n4_ n5_ n6_
            (try clear hb)
            (try clear hb2)
            (try clear hk)
            (try clear hi)
            (try clear ho0)
            obtain ⟨Ao26, co26, eo26⟩ := Kd.R_slice HO207.out
            (first | subst eo26 | (injection eo26 with f1_ f2_ f3_; have f4_ := f1_.symm; have f5_ := f3_.symm; clear f1_ f2_ f3_; subst f4_; subst f5_))
            refine hK.out _ _ ⟨(blk_cell BK202.out 0).trans rfl, (blk_cell BK202.out 1).trans rfl, (blk_cell BK202.out 2).trans rfl, (blk_cell BK202.out 3).trans rfl, (blk_cell BK202.out 4).trans rfl, (blk_cell BK202.out 5).trans rfl, (blk_cell BK197.out 0).trans rfl, (blk_cell BK197.out 1).trans rfl, (blk_cell BK197.out 2).trans rfl, (blk_cell BK197.out 3).trans rfl, (blk_cell BK197.out 4).trans rfl, (blk_cell BK197.out 5).trans rfl, ((HB.out.cell (World.block_lt_of_cell? w _ hw203_0)).trans hw203_0), ((HB.out.cell (World.block_lt_of_cell? w _ hw203_1)).trans hw203_1), ((HB.out.cell (World.block_lt_of_cell? w _ hw204_0)).trans hw204_0), ((HB.out.cell (World.block_lt_of_cell? w _ hw204_1)).trans hw204_1)⟩ (fun hHeld => ?_)
            clear hK K
            refine norm_ (a' := ?_) ?_ ?_
            rotate_left
            · show Act.put _ (some 38) _ = _
              simp only [Act.put, List.setIfInBounds_toArray, List.set_cons_zero, List.set_cons_succ, i64_w, i32_w]
              rfl
            refine pure_ (i := 15) (N := some 39) (v := ?_) (a' := ?_) #[true, true, true, true, true, true, true, true, true, true, true, true, true, true, true, true, false, false, false, false] rfl rfl (any_of HT_.out (by kernel_rfl)) (fun _ _ _ h => h) (Or.inl ⟨by rfl, ?_⟩) ?_ ?_
            rotate_left
            · intro w'
              go_simp
              with_reducible rfl
            rotate_left
            · simp only [Act.put, List.setIfInBounds_toArray, List.set_cons_zero, List.set_cons_succ, i64_w, i32_w]
              rfl
            refine one_ (i := 16) (N := some 40) #[true, true, true, true, true, true, true, true, true, true, true, true, true, true, true, true, true, false, false, false] rfl rfl (one_of HT_.out (by kernel_rfl)) (by decide) (fun K hK => ?_)
            refine value_ (w1 := ?_) (v := ?_) (by rfl) rfl ?_ ?_
            rotate_left 2
            · go_simp
              constructor
              · rfl
              · rfl
            refine hK.out _ _ ⟨(blk_cell (blk_alloc BK202.out _) 0).trans rfl, (blk_cell (blk_alloc BK202.out _) 1).trans rfl, (blk_cell (blk_alloc BK202.out _) 2).trans rfl, (blk_cell (blk_alloc BK202.out _) 3).trans rfl, (blk_cell (blk_alloc BK202.out _) 4).trans rfl, (blk_cell (blk_alloc BK202.out _) 5).trans rfl, (blk_cell (blk_alloc BK197.out _) 0).trans rfl, (blk_cell (blk_alloc BK197.out _) 1).trans rfl, (blk_cell (blk_alloc BK197.out _) 2).trans rfl, (blk_cell (blk_alloc BK197.out _) 3).trans rfl, (blk_cell (blk_alloc BK197.out _) 4).trans rfl, (blk_cell (blk_alloc BK197.out _) 5).trans rfl, (World.cell?_alloc_lt _ _ _ (World.block_lt_of_cell? _ _ (((HB.out.cell (World.block_lt_of_cell? w _ hw203_0)).trans hw203_0)))).trans (((HB.out.cell (World.block_lt_of_cell? w _ hw203_0)).trans hw203_0)), (World.cell?_alloc_lt _ _ _ (World.block_lt_of_cell? _ _ (((HB.out.cell (World.block_lt_of_cell? w _ hw203_1)).trans hw203_1)))).trans (((HB.out.cell (World.block_lt_of_cell? w _ hw203_1)).trans hw203_1)), (World.cell?_alloc_lt _ _ _ (World.block_lt_of_cell? _ _ (((HB.out.cell (World.block_lt_of_cell? w _ hw204_0)).trans hw204_0)))).trans (((HB.out.cell (World.block_lt_of_cell? w _ hw204_0)).trans hw204_0)), (World.cell?_alloc_lt _ _ _ (World.block_lt_of_cell? _ _ (((HB.out.cell (World.block_lt_of_cell? w _ hw204_1)).trans hw204_1)))).trans (((HB.out.cell (World.block_lt_of_cell? w _ hw204_1)).trans hw204_1))⟩ (fun hHeld => ?_)
            clear hK K
            refine norm_ (a' := ?_) ?_ ?_
            rotate_left
            · show Act.put _ (some 40) _ = _
              simp only [Act.put, List.setIfInBounds_toArray, List.set_cons_zero, List.set_cons_succ, i64_w, i32_w]
              rfl
            refine one_ (i := 17) (N := some 41) #[true, true, true, true, true, true, true, true, true, true, true, true, true, true, true, true, true, true, false, false] rfl rfl (one_of HT_.out (by kernel_rfl)) (by decide) (fun K hK => ?_)
            refine Kd.S_append_step k109 (w0 := w) w.heap.size (by rfl) (.tmp 25) (.tmp 40) 31 109 (.agg #[(.int .u32 0), (.slice none 0 0)]) 32 rfl Tryd.underlying31 info109 rfl (by decide) (by omega) u203005 x203005_1 (⟨(rd_T103 l0_5 x4_1).f0, t205⟩ : S109) [.int .u32 ((rd_T103 l0_5 x4_1).f0), .slice Ao26 t205.length co26] (fun k_ => some k_ ≠ (.slice Ao10 t199.length co10 : Value).ownBlock) (fun k_ => some k_ = (.slice Ao26 t205.length co26 : Value).ownBlock) rfl rfl ?aP (fun k_ hk_ => ((Kd.R_mono (ok' := fun k_ => ((fun k_ => some k_ ≠ (.slice Ao10 t199.length co10 : Value).ownBlock)) k_ ∧ some k_ ≠ (u203005 : Value).ownBlock) (Kd.R_apart' (HO207.out) (Kd.S_typed HO_203005.out) (by decide)) (fun k_ hk => ⟨hk.1.2, hk.2⟩))).1 k_ hk_.symm) ?aF ?aO ?aB ?aS ?aL ?_
            (case aP => exact k109_mkM _ _ _ (⟨(rd_T103 l0_5 x4_1).f0, t205⟩ : S109) (Kd.R_mono (Kd.R_tight rfl (Kd.R_mono (ok' := fun k_ => ((fun k_ => some k_ ≠ (.slice Ao10 t199.length co10 : Value).ownBlock)) k_ ∧ some k_ ≠ (u203005 : Value).ownBlock) (Kd.R_apart' (HO207.out) (Kd.S_typed HO_203005.out) (by decide)) (fun k_ hk => ⟨hk.1.2, hk.2⟩))) (fun _ h_ => h_)))
            (case aB => exact (by repeat (first | (with_reducible first | exact HB.out | apply below_alloc | apply pw_below_drewN | apply below_drew1 | refine below_set ?_ GE197.out | refine below_set ?_ GE198.out | refine below_set ?_ GE202.out) | exact HB.out)))
            (case aF => exact (fun k_ hk => Kd.fresh' (Kd.R_lt (by (with_reducible repeat (first | apply Kd.R_alloc | apply Kd.R_drewN | apply Kd.R_drew)); exact HO_203004.out)) k_ hk))
            (case aO => exact (by (with_reducible repeat (first | apply Kd.S_alloc | apply Kd.S_drewN | apply Kd.S_drew)); exact Kd.S_mono HO_203005.out (fun k_ hk => ⟨hk.1, fun e_ => hk.2 e_⟩)))
            (case aS => exact (below_size (by repeat (first | (with_reducible first | exact HB.out | apply below_alloc | apply pw_below_drewN | apply below_drew1 | refine below_set ?_ GE197.out | refine below_set ?_ GE198.out | refine below_set ?_ GE202.out) | exact HB.out))))
            (case aL => have := LMc20.out; omega)
            intro v209 w27 ho hb hg hat
            rw [← Ny208.out] at ho
            have n0_ := Aside0.mk (Kd.R_over' (by (with_reducible repeat (first | apply Kd.R_alloc | apply Kd.R_drewN | apply Kd.R_drew)); exact HO_203004.out) (Kd.S_typed (by (with_reducible repeat (first | apply Kd.S_alloc | apply Kd.S_drewN | apply Kd.S_drew)); exact HO_203005.out)) (by decide) hg)
            have n1_ := Aside0.mk (blk_grown (g := gb197) (o := .cells #[.bool a0_0, .bool a0_1, .bool a0_2, .string a0_3, .slice A0_4 l0_4.length c0_4, .slice (some ad203) l0_5.length c0_5] 25 (0, 0)) (by (with_reducible repeat (first | refine blk_drewN ?_ _ | refine blk_drew ?_ | refine blk_alloc ?_ _)); exact BK197.out) hg (Kd.S_ne HO_203005.out BK197.out (by decide)))
            have n2_ := Aside0.mk (blk_grown (g := gb198) (o := .cells #[.bool false, .bool false, .bool false, .string (⟨#[]⟩ : ByteArray), .slice none 0 0, .slice none 0 0] 33 (0, 0)) (by (with_reducible repeat (first | refine blk_drewN ?_ _ | refine blk_drew ?_ | refine blk_alloc ?_ _)); exact BK198.out) hg (Kd.S_ne HO_203005.out BK198.out (by decide)))
            have n3_ := Aside0.mk (blk_grown (g := gb202) (o := .cells #[.bool a0_0, .bool a0_1, .bool a0_2, .string a0_3, .slice Ao10 t199.length co10, u203005] 33 (0, 0)) (by (with_reducible repeat (first | refine blk_drewN ?_ _ | refine blk_drew ?_ | refine blk_alloc ?_ _)); exact BK202.out) hg (Kd.S_ne HO_203005.out BK202.out (by decide)))
            have n4_ := Aside0.mk (hb)
            have n5_ := Aside0.mk (ho)
            clear HO_203004
            clear BK197
            clear BK198
            clear BK202
            clear HB
            clear HO_203005
            clear HO207
            have HO_203004 := n0_
            have BK197 := n1_
            have BK198 := n2_
            have BK202 := n3_
            have HB := n4_
            have HO210 := n5_
            clear n0_ n1_ n2_ n3_ n4_ n5_
            clear ho hb hg hat
            obtain ⟨Ao28, co28, eo28⟩ := Kd.S_slice HO210.out
            (first | subst eo28 | (injection eo28 with f1_ f2_ f3_; have f4_ := f1_.symm; have f5_ := f3_.symm; clear f1_ f2_ f3_; subst f4_; subst f5_))
            refine hK.out _ _ ⟨(blk_cell BK202.out 0).trans rfl, (blk_cell BK202.out 1).trans rfl, (blk_cell BK202.out 2).trans rfl, (blk_cell BK202.out 3).trans rfl, (blk_cell BK202.out 4).trans rfl, (blk_cell BK202.out 5).trans rfl, (blk_cell BK197.out 0).trans rfl, (blk_cell BK197.out 1).trans rfl, (blk_cell BK197.out 2).trans rfl, (blk_cell BK197.out 3).trans rfl, (blk_cell BK197.out 4).trans rfl, (blk_cell BK197.out 5).trans rfl, ((HB.out.cell (World.block_lt_of_cell? w _ hw203_0)).trans hw203_0), ((HB.out.cell (World.block_lt_of_cell? w _ hw203_1)).trans hw203_1), ((HB.out.cell (World.block_lt_of_cell? w _ hw204_0)).trans hw204_0), ((HB.out.cell (World.block_lt_of_cell? w _ hw204_1)).trans hw204_1)⟩ (fun hHeld => ?_)
            clear hK K
            refine norm_ (a' := ?_) ?_ ?_
            rotate_left
            · show Act.put _ (some 41) _ = _
              simp only [Act.put, List.setIfInBounds_toArray, List.set_cons_zero, List.set_cons_succ, i64_w, i32_w]
              rfl
            refine pure_ (i := 18) (N := some 42) (v := ?_) (a' := ?_) #[true, true, true, true, true, true, true, true, true, true, true, true, true, true, true, true, true, true, true, false] rfl rfl (any_of HT_.out (by kernel_rfl)) (fun _ _ _ h => h) (Or.inl ⟨by rfl, ?_⟩) ?_ ?_
            rotate_left
            · intro w'
              go_simp
              with_reducible rfl
            rotate_left
            · simp only [Act.put, List.setIfInBounds_toArray, List.set_cons_zero, List.set_cons_succ, i64_w, i32_w]
              rfl
            refine last_ (i := 19) (N := none) #[true, true, true, true, true, true, true, true, true, true, true, true, true, true, true, true, true, true, true, true] rfl rfl (one_of HT_.out (by kernel_rfl)) (by decide) (fun K hK => ?_)
            have hs29 : w27.cell? ⟨gb202, 5, none⟩ = some (u203005) := (blk_cell BK202.out 5).trans rfl
            have hfs29 := blk_frozen BK202.out 5
            have hns29_0 := NB197_202.out
            have hns29_1 := NB198_202.out
            have hms29_0 := NB202_197.out
            have hms29_1 := NB202_198.out
            refine skip_ (w1 := ?_) (by rfl) rfl ?_ ?_
            rotate_left
            · go_simp
              rfl
            refine hK.out _ _ ?_
            clear hK K
            refine done_ (done_of HT_.out (by kernel_rfl)) ?_
            try go_wp2
            go_roundg k1
            case measure => have := HK1.out; omega
            case rel => exact ⟨(wrap64 (x4_1 + 1)), (y208), (.slice Ao28 y208.length co28), (by first | rfl | (simp; done) | (simp [*]; done)), H', ⟨by have := HK1.out; omega⟩, ⟨by (with_reducible repeat (first | apply Kd.R_alloc | apply Kd.R_drewN | apply Kd.R_drew)); exact Kd.R_mono (Kd.R_far (p := ⟨gb202, 5, none⟩) (Kd.R_types HO_203004.out BK202.out (by decide)) (fun _ hk => hk.2) (.slice Ao28 y208.length co28)) (fun _ hk => trivial)⟩, ⟨by (with_reducible repeat (first | apply Kd.S_alloc | apply Kd.S_drewN | apply Kd.S_drew)); exact Kd.S_mono (Kd.S_far (p := ⟨gb202, 5, none⟩) (Kd.S_types HO210.out BK202.out (by decide)) (fun _ hk => hk.2) (.slice Ao28 y208.length co28)) (fun _ hk => hk.1)⟩, ⟨by (with_reducible repeat (first | refine blk_drewN ?_ _ | refine blk_drew ?_ | refine blk_alloc ?_ _)); refine blk_far ?_ NB197_202.out _; (with_reducible repeat (first | refine blk_drewN ?_ _ | refine blk_drew ?_ | refine blk_alloc ?_ _)); exact BK197.out⟩, ⟨by (with_reducible repeat (first | refine blk_drewN ?_ _ | refine blk_drew ?_ | refine blk_alloc ?_ _)); refine blk_far ?_ NB198_202.out _; (with_reducible repeat (first | refine blk_drewN ?_ _ | refine blk_drew ?_ | refine blk_alloc ?_ _)); exact BK198.out⟩, ⟨by (with_reducible repeat (first | refine blk_drewN ?_ _ | refine blk_drew ?_ | refine blk_alloc ?_ _)); refine blk_put (cs := #[.bool a0_0, .bool a0_1, .bool a0_2, .string a0_3, .slice Ao10 t199.length co10, u203005]) ?_ 5 _ rfl; (with_reducible repeat (first | refine blk_drewN ?_ _ | refine blk_drew ?_ | refine blk_alloc ?_ _)); exact BK202.out⟩, ⟨by repeat (first | (with_reducible first | exact HB.out | apply below_alloc | apply pw_below_drewN | apply below_drew1 | refine below_set ?_ GE197.out | refine below_set ?_ GE198.out | refine below_set ?_ GE202.out) | exact HB.out)⟩⟩
          · rw [if_neg c20] at H
            exact absurd H (by simp)
        · rw [if_neg c18] at H
          exact absurd H (by simp)
      · rw [if_neg c17] at H
        have c17b0 : decide (x4_1 < (l0_5.length : Int)) = false := decide_eq_false c17
        clear c17
        simp only [Option.some.injEq, Prod.mk.injEq] at H
        obtain ⟨rfl, rfl, rfl, rfl, rfl, rfl⟩ := H
        have hnb30 := NB197_198.out
        have hnc30 := NB198_197.out
        have hnb31 := NB197_202.out
        have hnc31 := NB202_197.out
        have hcz32_0 : wr.cell? ⟨gb197, 0, none⟩ = some (.bool a0_0) := (blk_cell BK197.out 0).trans rfl
        have hcz32_1 : wr.cell? ⟨gb197, 1, none⟩ = some (.bool a0_1) := (blk_cell BK197.out 1).trans rfl
        have hcz32_2 : wr.cell? ⟨gb197, 2, none⟩ = some (.bool a0_2) := (blk_cell BK197.out 2).trans rfl
        have hcz32_3 : wr.cell? ⟨gb197, 3, none⟩ = some (.string a0_3) := (blk_cell BK197.out 3).trans rfl
        have hcz32_4 : wr.cell? ⟨gb197, 4, none⟩ = some (.slice A0_4 l0_4.length c0_4) := (blk_cell BK197.out 4).trans rfl
        have hcz32_5 : wr.cell? ⟨gb197, 5, none⟩ = some (.slice A0_5 l0_5.length c0_5) := (blk_cell BK197.out 5).trans rfl
        have hfz32_0 := blk_frozen BK197.out 0
        have hfz32_1 := blk_frozen BK197.out 1
        have hfz32_2 := blk_frozen BK197.out 2
        have hfz32_3 := blk_frozen BK197.out 3
        have hfz32_4 := blk_frozen BK197.out 4
        have hfz32_5 := blk_frozen BK197.out 5
        have hnb33 := NB202_198.out
        have hnc33 := NB198_202.out
        have hcz34_0 : wr.cell? ⟨gb202, 0, none⟩ = some (.bool a0_0) := (blk_cell BK202.out 0).trans rfl
        have hcz34_1 : wr.cell? ⟨gb202, 1, none⟩ = some (.bool a0_1) := (blk_cell BK202.out 1).trans rfl
        have hcz34_2 : wr.cell? ⟨gb202, 2, none⟩ = some (.bool a0_2) := (blk_cell BK202.out 2).trans rfl
        have hcz34_3 : wr.cell? ⟨gb202, 3, none⟩ = some (.string a0_3) := (blk_cell BK202.out 3).trans rfl
        have hcz34_4 : wr.cell? ⟨gb202, 4, none⟩ = some (.slice Ao10 t199.length co10) := (blk_cell BK202.out 4).trans rfl
        have hcz34_5 : wr.cell? ⟨gb202, 5, none⟩ = some (u203005) := (blk_cell BK202.out 5).trans rfl
        have hfz34_0 := blk_frozen BK202.out 0
        have hfz34_1 := blk_frozen BK202.out 1
        have hfz34_2 := blk_frozen BK202.out 2
        have hfz34_3 := blk_frozen BK202.out 3
        have hfz34_4 := blk_frozen BK202.out 4
        have hfz34_5 := blk_frozen BK202.out 5
        have hcz35_0 : wr.cell? ⟨gb198, 0, none⟩ = some (.bool false) := (blk_cell BK198.out 0).trans rfl
        have hcz35_1 : wr.cell? ⟨gb198, 1, none⟩ = some (.bool false) := (blk_cell BK198.out 1).trans rfl
        have hcz35_2 : wr.cell? ⟨gb198, 2, none⟩ = some (.bool false) := (blk_cell BK198.out 2).trans rfl
        have hcz35_3 : wr.cell? ⟨gb198, 3, none⟩ = some (.string (⟨#[]⟩ : ByteArray)) := (blk_cell BK198.out 3).trans rfl
        have hcz35_4 : wr.cell? ⟨gb198, 4, none⟩ = some (.slice none 0 0) := (blk_cell BK198.out 4).trans rfl
        have hcz35_5 : wr.cell? ⟨gb198, 5, none⟩ = some (.slice none 0 0) := (blk_cell BK198.out 5).trans rfl
        have hfz35_0 := blk_frozen BK198.out 0
        have hfz35_1 := blk_frozen BK198.out 1
        have hfz35_2 := blk_frozen BK198.out 2
        have hfz35_3 := blk_frozen BK198.out 3
        have hfz35_4 := blk_frozen BK198.out 4
        have hfz35_5 := blk_frozen BK198.out 5
        obtain ⟨Ao36, co36, eo36⟩ := Kd.S_slice HO_203005.out
        subst eo36
        go_wp2
        refine bodyPost_ret (results_cell_row rfl _ _ gb198 33 #[.bool a0_0, .bool a0_1, .bool a0_2, .string a0_3, .slice Ao10 t199.length co10, .slice Ao36 x203005_1.length co36] (0, 0) _ rfl (by (with_reducible repeat (first | refine blk_drewN ?_ _ | refine blk_drew ?_ | refine blk_alloc ?_ _)); refine blk_put (cs := #[.bool a0_0, .bool a0_1, .bool a0_2, .string a0_3, .slice Ao10 t199.length co10, .slice none 0 0]) ?_ 5 _ rfl; (with_reducible repeat (first | refine blk_drewN ?_ _ | refine blk_drew ?_ | refine blk_alloc ?_ _)); refine blk_put (cs := #[.bool a0_0, .bool a0_1, .bool a0_2, .string a0_3, .slice none 0 0, .slice none 0 0]) ?_ 4 _ rfl; (with_reducible repeat (first | refine blk_drewN ?_ _ | refine blk_drew ?_ | refine blk_alloc ?_ _)); refine blk_put (cs := #[.bool a0_0, .bool a0_1, .bool a0_2, .string (⟨#[]⟩ : ByteArray), .slice none 0 0, .slice none 0 0]) ?_ 3 _ rfl; (with_reducible repeat (first | refine blk_drewN ?_ _ | refine blk_drew ?_ | refine blk_alloc ?_ _)); refine blk_put (cs := #[.bool a0_0, .bool a0_1, .bool false, .string (⟨#[]⟩ : ByteArray), .slice none 0 0, .slice none 0 0]) ?_ 2 _ rfl; (with_reducible repeat (first | refine blk_drewN ?_ _ | refine blk_drew ?_ | refine blk_alloc ?_ _)); refine blk_put (cs := #[.bool a0_0, .bool false, .bool false, .string (⟨#[]⟩ : ByteArray), .slice none 0 0, .slice none 0 0]) ?_ 1 _ rfl; (with_reducible repeat (first | refine blk_drewN ?_ _ | refine blk_drew ?_ | refine blk_alloc ?_ _)); refine blk_put (cs := #[.bool false, .bool false, .bool false, .string (⟨#[]⟩ : ByteArray), .slice none 0 0, .slice none 0 0]) ?_ 0 _ rfl; (with_reducible repeat (first | refine blk_drewN ?_ _ | refine blk_drew ?_ | refine blk_alloc ?_ _)); exact BK198.out) Tryd.underlying33 rfl (by kernel_rfl)) rfl ?_
        exact ⟨_, _, by first | rfl | (simp [errW_none, errW_some] <;> rfl) | (simp [*, errW_none, errW_some] <;> rfl), by (with_reducible repeat (first | apply Kd.R_alloc | apply Kd.R_drewN | apply Kd.R_drew)); exact Kd.R_mono (Kd.R_far (p := ⟨gb198, 5, none⟩) (Kd.R_far (p := ⟨gb198, 4, none⟩) (Kd.R_far (p := ⟨gb198, 3, none⟩) (Kd.R_far (p := ⟨gb198, 2, none⟩) (Kd.R_far (p := ⟨gb198, 1, none⟩) (Kd.R_far (p := ⟨gb198, 0, none⟩) (Kd.R_types HO_203004.out BK198.out (by decide)) (fun _ hk => hk.2) (.bool a0_0)) (fun _ hk => hk.2) (.bool a0_1)) (fun _ hk => hk.2) (.bool a0_2)) (fun _ hk => hk.2) (.string a0_3)) (fun _ hk => hk.2) (.slice Ao10 t199.length co10)) (fun _ hk => hk.2) (.slice Ao36 x203005_1.length co36)) (fun _ hk => trivial), by (with_reducible repeat (first | apply Kd.S_alloc | apply Kd.S_drewN | apply Kd.S_drew)); exact Kd.S_mono (Kd.S_far (p := ⟨gb198, 5, none⟩) (Kd.S_far (p := ⟨gb198, 4, none⟩) (Kd.S_far (p := ⟨gb198, 3, none⟩) (Kd.S_far (p := ⟨gb198, 2, none⟩) (Kd.S_far (p := ⟨gb198, 1, none⟩) (Kd.S_far (p := ⟨gb198, 0, none⟩) (Kd.S_types HO_203005.out BK198.out (by decide)) (fun _ hk => hk.2) (.bool a0_0)) (fun _ hk => hk.2) (.bool a0_1)) (fun _ hk => hk.2) (.bool a0_2)) (fun _ hk => hk.2) (.string a0_3)) (fun _ hk => hk.2) (.slice Ao10 t199.length co10)) (fun _ hk => hk.2) (.slice Ao36 x203005_1.length co36)) (fun _ hk => hk.1), by repeat (first | (with_reducible first | exact HB.out | apply below_alloc | apply pw_below_drewN | apply below_drew1 | refine below_set ?_ GE197.out | refine below_set ?_ GE198.out | refine below_set ?_ GE202.out) | exact HB.out)⟩
def names_ofLocal.f (a0_0 : Int) (l0_1 : List (S121)) : Option (Int) := some a0_0
set_option maxHeartbeats 8000000 in
set_option maxRecDepth 100000 in
theorem names_ofLocal.calls (a0_0 : Int) (A0_1 : Option Addr) (c0_1 : Nat) (l0_1 : List (S121)) (r : Int) (w : World) (hr0_1 : Kd.C k121 w A0_1 l0_1.length l0_1) (hc0_1 : l0_1.length ≤ c0_1) (h : names_ofLocal.f a0_0 l0_1 = some r) :
    Calls Tryd.prog 76 #[.agg #[.int .u32 a0_0, .slice A0_1 l0_1.length c0_1]] w fun e w' => e = .returned (.int .u32 r) ∧ Below w.heap.size w w' := by
  have hu109 := Tryd.underlying109
  have HR0_1 := Aside0.mk hr0_1
  have HC0_1 := Aside0.mk hc0_1
  clear hr0_1 hc0_1
  have HB := Aside0.mk (Below.refl w.heap.size w)
  have H : (some a0_0) = some r := h
  clear h
  obtain rfl := Option.some.inj H
  go_enter Tryd.func76, Tryd.ntmps76
  go_wp2_with (first | ((with_reducible refine gate_dst (N := 1) rfl ?_); refine box_event ?hg (N := 1) ?hd (cs := #[.int .u32 a0_0, .slice A0_1 l0_1.length c0_1]) (t := 109) ?hr ?_; (case hd => rfl); (case hg => rfl); (case hr => first | (go_simp; done) | (go_simp; rfl)); intro gb211 hg w2 hbox hb; have n0_ := Aside0.mk (below_step (by repeat (first | (with_reducible first | exact HB.out | apply below_alloc | apply pw_below_drewN | apply below_drew1) | exact HB.out)) hb); have n1_ := Aside0.mk (hbox); have n2_ := Aside0.mk ((by rw [hg]; exact (below_size (by repeat (first | (with_reducible first | exact HB.out | apply below_alloc | apply pw_below_drewN | apply below_drew1) | exact HB.out))) : w.heap.size ≤ gb211)); have n3_ := Aside0.mk ((by rw [hg]; exact (below_size (by repeat (first | (with_reducible first | exact HB.out | apply below_alloc | apply pw_below_drewN | apply below_drew1) | exact HB.out))) : w.heap.size ≤ gb211)); clear HB; have HB := n0_; have BK211 := n1_; have GW211 := n2_; have GE211 := n3_; clear n0_ n1_ n2_ n3_; clear hb hbox hg; have hcz3_0 : w2.cell? ⟨gb211, 0, none⟩ = some (.int .u32 a0_0) := (blk_cell BK211.out 0).trans rfl; have hcz3_1 : w2.cell? ⟨gb211, 1, none⟩ = some (.slice A0_1 l0_1.length c0_1) := (blk_cell BK211.out 1).trans rfl; have hfz3_0 := blk_frozen BK211.out 0; have hfz3_1 := blk_frozen BK211.out 1))
  go_ret
  exact ⟨by first | rfl | (simp [errW_none, errW_some] <;> rfl) | (simp [*, errW_none, errW_some] <;> rfl), by repeat (first | (with_reducible first | exact HB.out | apply below_alloc | apply pw_below_drewN | apply below_drew1 | refine below_set ?_ GE211.out) | exact HB.out)⟩
def names_ofName.f (a0_0 : Int) (a0_1 : ByteArray) : Option (Int) := some a0_0
set_option maxHeartbeats 8000000 in
set_option maxRecDepth 100000 in
theorem names_ofName.calls (a0_0 : Int) (a0_1 : ByteArray) (r : Int) (w : World) (h : names_ofName.f a0_0 a0_1 = some r) :
    Calls Tryd.prog 131 #[.agg #[.int .u32 a0_0, .string a0_1]] w fun e w' => e = .returned (.int .u32 r) ∧ Below w.heap.size w w' := by
  have hu121 := Tryd.underlying121
  have HB := Aside0.mk (Below.refl w.heap.size w)
  have H : (some a0_0) = some r := h
  clear h
  obtain rfl := Option.some.inj H
  go_enter Tryd.func131, Tryd.ntmps131
  go_wp2_with (first | ((with_reducible refine gate_dst (N := 1) rfl ?_); refine box_event ?hg (N := 1) ?hd (cs := #[.int .u32 a0_0, .string a0_1]) (t := 121) ?hr ?_; (case hd => rfl); (case hg => rfl); (case hr => first | (go_simp; done) | (go_simp; rfl)); intro gb212 hg w2 hbox hb; have n0_ := Aside0.mk (below_step (by repeat (first | (with_reducible first | exact HB.out | apply below_alloc | apply pw_below_drewN | apply below_drew1) | exact HB.out)) hb); have n1_ := Aside0.mk (hbox); have n2_ := Aside0.mk ((by rw [hg]; exact (below_size (by repeat (first | (with_reducible first | exact HB.out | apply below_alloc | apply pw_below_drewN | apply below_drew1) | exact HB.out))) : w.heap.size ≤ gb212)); have n3_ := Aside0.mk ((by rw [hg]; exact (below_size (by repeat (first | (with_reducible first | exact HB.out | apply below_alloc | apply pw_below_drewN | apply below_drew1) | exact HB.out))) : w.heap.size ≤ gb212)); clear HB; have HB := n0_; have BK212 := n1_; have GW212 := n2_; have GE212 := n3_; clear n0_ n1_ n2_ n3_; clear hb hbox hg; have hcz3_0 : w2.cell? ⟨gb212, 0, none⟩ = some (.int .u32 a0_0) := (blk_cell BK212.out 0).trans rfl; have hcz3_1 : w2.cell? ⟨gb212, 1, none⟩ = some (.string a0_1) := (blk_cell BK212.out 1).trans rfl; have hfz3_0 := blk_frozen BK212.out 0; have hfz3_1 := blk_frozen BK212.out 1))
  go_ret
  exact ⟨by first | rfl | (simp [errW_none, errW_some] <;> rfl) | (simp [*, errW_none, errW_some] <;> rfl), by repeat (first | (with_reducible first | exact HB.out | apply below_alloc | apply pw_below_drewN | apply below_drew1 | refine below_set ?_ GE212.out) | exact HB.out)⟩
end Go.Proofs.YtiohiiekaofkbaaDoor.PNamesBack
/- Printed for this claim. -/
namespace Go.Proofs.YtiohiiekaofkbaaDoor.PNamesBack
open Go.RowKit Go.Proofs.YtiohiiekaofkbaaDoorW.PrintWords Go.Proofs.YtiohiiekaofkbaaDoorW.PrintLast Go.Proofs.YtiohiiekaofkbaaDoorW.PrintMore
attribute [local go_sem] max2_int min2_int max_two min_two max_three min_three max_four min_four
set_option linter.unusedVariables false
set_option linter.unusedSimpArgs false
theorem eqA101 (d : Nat) (w : World) (x0 y0 : Int) (x1 y1 : ByteArray) :
    (Op.equalIn (d + 2) 101 (.agg #[.int .u32 x0, .string x1]) (.agg #[.int .u32 y0, .string y1])).run Tryd.prog w = .ok (x0 == y0 && (x1.toList == y1.toList)) w := by
  refine eqA_of Tryd.underlying101 (by kernel_rfl) ?_
  refine eqf_cons (by rfl) (by go_simp; rfl) (by go_simp; rfl) (by go_simp) ?_
  exact eqf_last (by rfl) (by go_simp; rfl) (by go_simp; rfl) (by go_simp)
end Go.Proofs.YtiohiiekaofkbaaDoor.PNamesBack
