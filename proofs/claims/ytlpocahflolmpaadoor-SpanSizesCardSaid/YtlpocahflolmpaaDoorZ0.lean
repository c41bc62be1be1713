/- The walk of the statement SpanSizes. -/
import Derived.Test.YtlpocahflolmpaaDoorC0
import Derived.Test.YtlpocahflolmpaaDoorM1
namespace Go.Proofs.YtlpocahflolmpaaDoor
set_option linter.unusedVariables false
set_option linter.unusedSimpArgs false
open Go.RowKit

theorem sizes_glob (a b c d r : Int) (w : World) (ha : 0 ≤ a) (ha2 : a ≤ 274877906944) (hb : 0 ≤ b) (hb2 : b ≤ 9223372036854775807) (hc : 0 ≤ c) (hc2 : c ≤ 274877906944) (hd : 0 ≤ d) (hd2 : d ≤ 9223372036854775807) (hr : 0 ≤ r) (hr2 : r ≤ 1099511627776) (L H : Int) (hL : Hid (szL a b c d r = L)) (hH : Hid (szH a b c d r = H)) (hG : Glob w) :
    Calls Tryd.prog 19 #[.agg #[.int .i64 a, .int .i64 b], .agg #[.int .i64 c, .int .i64 d], .int .i64 r] w fun e w' => e = .returned (.agg #[.int .u64 L, .int .u64 H]) ∧ Below w.heap.size w w' := by
  rw [← hL.out, ← hH.out]
  exact sizes_any a b c d r w ha ha2 hb hb2 hc hc2 hd hd2 hr hr2 hG.size hG.c0 hG.c1

set_option maxHeartbeats 4000000 in
set_option maxRecDepth 100000 in
theorem sizes_yes (a b c d r : Int) (w : World) (hi : rightB a b = true) (hrr : rightB c d = true) (r0 : 0 ≤ r) (r1 : r ≤ 1099511627776) (hb2 : b ≤ 9223372036854775807) (hd2 : d ≤ 9223372036854775807) (hG : Glob w) :
    Calls Tryd.prog 6 #[.agg #[.int .i64 a, .int .i64 b], .agg #[.int .i64 c, .int .i64 d], .int .i64 r] w fun e w' => e = .returned (.bool true) ∧ Below w.heap.size w w' := by
  obtain ⟨ra1, ra2, ra3⟩ : 0 ≤ a ∧ a ≤ b ∧ a ≤ 274877906944 := by simp only [rightB, decide_eq_true_eq] at hi; omega
  obtain ⟨rc1, rc2, rc3⟩ : 0 ≤ c ∧ c ≤ d ∧ c ≤ 274877906944 := by simp only [rightB, decide_eq_true_eq] at hrr; omega
  have HM := hid (fun n n0 n1 => sizes_law a b c d r n hi hrr r0 r1 n0 n1)
  obtain ⟨b1, b2, b3, b4, b5⟩ := sizes_bd a b c d r hi hrr r0 r1
  obtain ⟨L, hL⟩ : ∃ L, szL a b c d r = L := ⟨_, rfl⟩
  obtain ⟨H, hH⟩ : ∃ H, szH a b c d r = H := ⟨_, rfl⟩
  rw [hL] at b1 b2
  rw [hH] at b3 b4
  have B5 := hid b5
  clear b5
  have HL := hid hL
  have HH := hid hH
  clear hL hH
  go_enter Tryd.func6, Tryd.ntmps6
  go_upto_region 3 with (first | (go_at_call 9; refine (right_any _ _ _).mono ?_; rintro e w' ⟨rfl, hb1⟩; (first | have hq1 := hz1 | have hq1 := True.intro); (first | have hq0 := hz0 | have hq0 := True.intro); obtain ⟨hcc, hff⟩ := bcell hb1; have hz1 := hb1.size; (try simp at hz1); (try have hy1 := Nat.lt_of_lt_of_le hq1 hz1); (try have hy0 := Nat.lt_of_lt_of_le hq0 hz1); (try replace hz1 := Nat.lt_of_succ_le hz1); (try have hz0 := Nat.lt_of_succ_lt hz1)))
  go_cut [7] (fun s7 wx => ∃ g : Nat, s7 = .pointer (some ⟨g, 0, none⟩) ∧ wx.cell? ⟨g, 0, none⟩ = some (.int .u64 L) ∧ wx.cell? ⟨g, 1, none⟩ = some (.int .u64 H) ∧ Below (w.heap.size + 2) ((w.alloc (.cells #[.int .i64 a, .int .i64 b] 23)).alloc (.cells #[.int .i64 c, .int .i64 d] 23)) wx)
  case first =>
    go_region_held3 (fun w' => w'.cell? ⟨w.heap.size, 0, none⟩ = some (.int .i64 a) ∧ w'.cell? ⟨w.heap.size, 1, none⟩ = some (.int .i64 b) ∧ w'.cell? ⟨w.heap.size + 1, 0, none⟩ = some (.int .i64 c) ∧ w'.cell? ⟨w.heap.size + 1, 1, none⟩ = some (.int .i64 d) ∧ Below w.heap.size w w' ∧ w.heap.size + 1 < w'.heap.size)
      (exact two_boxes (T := 23) (U := 23) (by repeat (first | exact Below.refl _ _ | assumption | refine Below.alloc ?_ (by first | exact Nat.le_refl _ | (simp; done) | (simp; omega) | omega) _ | refine Below.drew ?_ | refine Below.setCell ?_ (by first | exact Nat.le_refl _ | (simp; done) | (simp; omega) | omega) _ | refine below_call ?_ (by assumption) (by first | exact Nat.le_refl _ | (simp; done) | (simp; omega) | omega))))
      (first
        | (go_at_call 11; refine (own_any _ _ _).mono ?_; rintro e w' ⟨rfl, hb1⟩; (first | have hq1 := hz1 | have hq1 := True.intro); (first | have hq0 := hz0 | have hq0 := True.intro); obtain ⟨hcc, hff⟩ := bcell hb1; have hz1 := hb1.size; (try simp at hz1); (try have hy1 := Nat.lt_of_lt_of_le hq1 hz1); (try have hy0 := Nat.lt_of_lt_of_le hq0 hz1); (try replace hz1 := Nat.lt_of_succ_le hz1); (try have hz0 := Nat.lt_of_succ_lt hz1))
        | (go_at_call 19; refine (sizes_glob _ _ _ _ _ _ (by omega) (by omega) (by omega) (by omega) (by omega) (by omega) (by omega) (by omega) (by omega) (by omega) L H HL HH (hG.of (‹_ ∧ _ ∧ _ ∧ _ ∧ _ ∧ _›).2.2.2.2.1)).mono ?_; rintro e w' ⟨rfl, hb1⟩; (first | have hq1 := hz1 | have hq1 := True.intro); (first | have hq0 := hz0 | have hq0 := True.intro); obtain ⟨hcc, hff⟩ := bcell hb1; have hz1 := hb1.size; (try simp at hz1); (try have hy1 := Nat.lt_of_lt_of_le hq1 hz1); (try have hy0 := Nat.lt_of_lt_of_le hq0 hz1); (try replace hz1 := Nat.lt_of_succ_le hz1); (try have hz0 := Nat.lt_of_succ_lt hz1)))
    all_goals (go_wp2_with fail)
    all_goals (go_meet)
    all_goals (refine ⟨_, rfl, ?_, ?_, (by repeat (first | exact Below.refl _ _ | assumption | refine Below.alloc ?_ (by first | exact Nat.le_refl _ | (simp; done) | (simp; omega) | omega) _ | refine Below.drew ?_ | refine Below.setCell ?_ (by first | exact Nat.le_refl _ | (simp; done) | (simp; omega) | omega) _ | refine below_call ?_ (by assumption) (by first | exact Nat.le_refl _ | (simp; done) | (simp; omega) | omega)))⟩ <;> first | (go_simp; done) | (refine (set2 (x := .int .u64 0) (y := .int .u64 0) ?_ ?_).1 <;> (go_simp; done)) | (refine (set2 (x := .int .u64 0) (y := .int .u64 0) ?_ ?_).2 <;> (go_simp; done)) | trace_state)
  case rest =>
    obtain ⟨g, rfl, h1, h2, h5⟩ := hcut
    obtain ⟨k1, k2, k3, k4, k5, k6⟩ := two_boxes h5
    have GL := hid (hG.of k5)
    have HB5 := hid k5
    have gl := cell_lt h1
    clear h5 k5 hG hi hrr
    by_cases hLH : H < L
    · obtain ⟨e1, e2⟩ := B5.out (by rw [HL.out, HH.out]; exact hLH)
      rw [HL.out] at e1
      rw [HH.out] at e2
      have q1 : (L == 1) = true := by simp [e1]
      have q2 : (H == 0) = true := by simp [e2]
      have q3 : (L != 1) = false := by simp [e1]
      have q4 : (H != 0) = false := by simp [e2]
      clear B5 e1 e2
      have S6 := hid (p := SixCells wc w.heap.size (w.heap.size + 1) g a b c d L H) ⟨k1, k2, k3, k4, h1, h2⟩
      go_wp2_with (first | (go_at_call 12; refine (near_any _ _ _ (by omega) (by omega) (by omega) (by omega)).mono ?_; rintro e w' ⟨v, rfl, hown, hb1⟩))
      obtain ⟨g2, cap, rfl, hg2, hg3, hcell⟩ := row11 hown
      have HC := hid hcell
      clear hown hcell
      have HS := hid (S6.out.of hb1)
      have HBW := hid (below_call HB5.out hb1 HB5.out.size)
      have GLW := hid (GL.out.of hb1)
      obtain ⟨wn, rfl⟩ : ∃ wn : World, wn = w' := ⟨_, rfl⟩
      clear hb1 k1 k2 k3 k4 k6 h1 h2 S6 HB5 GL gl hcc hff
      go_loopw [9] (fun i wr => ∃ k : Nat, k ≤ 11 ∧ i = .int .i64 k ∧ Below wn.heap.size wn wr) (fun i wr => 11 - (intOf i).toNat)
      case atStart => exact ⟨0, by omega, rfl, Below.refl _ _⟩
      case round =>
        obtain ⟨k, hk, rfl, hbel⟩ := hrel
        by_cases hlt : k < 11
        · obtain ⟨n, hn1, hn2, hn3⟩ := near_in (lo := L) (hi := H) (by omega) (by omega) (by omega) (by omega) hlt
          have hcl := still hbel ((HC.out k hlt).trans hn1)
          have HBR := hid hbel
          clear hbel hn1
          by_cases hin : 0 ≤ n ∧ n ≤ 4294967295
          · obtain ⟨n0, n1⟩ := hin
            have e := HM.out n n0 n1
            rw [HL.out, HH.out] at e
            have hwn : IntKind.u64.wrap n = n := by rw [wu]; omega
            have KS := hid (fun W hb => (HS.out.of HBR.out).held (W := W) hb)
            by_cases t1 : L ≤ n
            · by_cases t2 : n ≤ H
              · exfalso; omega
              · have e2 : partsB a b c d r n = false := e.trans (decide_eq_false (fun q => t2 q.2))
                clear e
                go_wp2_with fail
                first | (go_region_held3 (fun w' => w'.cell? ⟨w.heap.size, 0, none⟩ = some (.int .i64 a) ∧ w'.cell? ⟨w.heap.size, 1, none⟩ = some (.int .i64 b) ∧ w'.cell? ⟨w.heap.size + 1, 0, none⟩ = some (.int .i64 c) ∧ w'.cell? ⟨w.heap.size + 1, 1, none⟩ = some (.int .i64 d) ∧ w'.cell? ⟨g, 0, none⟩ = some (.int .u64 L) ∧ w'.cell? ⟨g, 1, none⟩ = some (.int .u64 H) ∧ HoldS wr w') (first | assumption | exact KS.out _ (Below.refl _ _).drew | exact KS.out _ (below_call (‹_ ∧ _ ∧ _ ∧ _ ∧ _ ∧ _ ∧ _›).2.2.2.2.2.2 (by assumption) (Below.size (‹_ ∧ _ ∧ _ ∧ _ ∧ _ ∧ _ ∧ _›).2.2.2.2.2.2))) (first | (go_at_call 20; refine (parts_any _ _ _ _ _ _ _ (by omega) (by omega) (by omega) (by omega)).mono ?_; rintro e w' ⟨rfl, hb1⟩))) | fail
                all_goals
                  have HD := hid (‹_ ∧ _ ∧ _ ∧ _ ∧ _ ∧ _ ∧ _›).2.2.2.2.2.2
                  go_wp2
                  go_roundw
                  case rel => first | exact ⟨k + 1, by omega, by go_num, HBR.out.trans (Below.mono HD.out HBR.out.size)⟩ | ((repeat apply Exists.intro); exact ⟨⟨k + 1, by omega, by go_num, HBR.out.trans (Below.mono HD.out HBR.out.size)⟩, rfl⟩)
                  case measure => simp [intOf]; omega
            · have e2 : partsB a b c d r n = false := e.trans (decide_eq_false (fun q => t1 q.1))
              have hdt : decide (L ≤ n) = false := decide_eq_false t1
              clear e
              go_wp2_with fail
              refine wp_region_noPanic ?_
              refine wp_region_held_drew (S := (fun w' => w'.cell? ⟨w.heap.size, 0, none⟩ = some (.int .i64 a) ∧ w'.cell? ⟨w.heap.size, 1, none⟩ = some (.int .i64 b) ∧ w'.cell? ⟨w.heap.size + 1, 0, none⟩ = some (.int .i64 c) ∧ w'.cell? ⟨w.heap.size + 1, 1, none⟩ = some (.int .i64 d) ∧ w'.cell? ⟨g, 0, none⟩ = some (.int .u64 L) ∧ w'.cell? ⟨g, 1, none⟩ = some (.int .u64 H) ∧ HoldS wr w')) (by kernel_rfl) ?hS (fun hHeld => ?go)
              case hS => exact KS.out _ (Below.refl _ _).drew
              refine wpAnyH_take (i := 0) (oi := { dst := some 71, op := Go.Op.load 23 (Go.Operand.tmp 3), type := 23, pos := "law.go:72", after := #[], guard := none }) (v := ?_) rfl (by kernel_rfl) (by kernel_rfl) (by kernel_rfl) (fun _ _ _ h => h) (Or.inl ⟨by rfl, ?hy0⟩) (by assumption) ?rest0
              case hy0 => (intro w hSw; (try dsimp only at hSw); go_simp; try with_reducible rfl)
              simp only [Act.put, List.setIfInBounds_toArray, List.set_cons_zero, List.set_cons_succ]
              refine wpAnyH_take (i := 1) (oi := { dst := some 72, op := Go.Op.load 23 (Go.Operand.tmp 4), type := 23, pos := "law.go:72", after := #[], guard := none }) (v := ?_) rfl (by kernel_rfl) (by kernel_rfl) (by kernel_rfl) (fun _ _ _ h => h) (Or.inl ⟨by rfl, ?hy1⟩) (by assumption) ?rest1
              case hy1 => (intro w hSw; (try dsimp only at hSw); go_simp; try with_reducible rfl)
              simp only [Act.put, List.setIfInBounds_toArray, List.set_cons_zero, List.set_cons_succ]
              refine wpAnyH_take (i := 2) (oi := { dst := some 73, op := Go.Op.move (Go.Operand.tmp 2), type := 3, pos := "law.go:72", after := #[], guard := none }) (v := ?_) rfl (by kernel_rfl) (by kernel_rfl) (by kernel_rfl) (fun _ _ _ h => h) (Or.inl ⟨by rfl, ?hy2⟩) (by assumption) ?rest2
              case hy2 => (intro w hSw; (try dsimp only at hSw); go_simp; try with_reducible rfl)
              simp only [Act.put, List.setIfInBounds_toArray, List.set_cons_zero, List.set_cons_succ]
              refine wpAnyH_take (i := 3) (oi := { dst := some 74, op := Go.Op.move (Go.Operand.tmp 10), type := 3, pos := "law.go:72", after := #[], guard := none }) (v := ?_) rfl (by kernel_rfl) (by kernel_rfl) (by kernel_rfl) (fun _ _ _ h => h) (Or.inl ⟨by rfl, ?hy3⟩) (by assumption) ?rest3
              case hy3 => (intro w hSw; (try dsimp only at hSw); go_simp; try with_reducible rfl)
              simp only [Act.put, List.setIfInBounds_toArray, List.set_cons_zero, List.set_cons_succ]
              refine wpAnyH_take (i := 5) (oi := { dst := some 76, op := Go.Op.move (Go.Operand.tmp 10), type := 3, pos := "law.go:72", after := #[], guard := none }) (v := ?_) rfl (by kernel_rfl) (by kernel_rfl) (by kernel_rfl) (fun _ _ _ h => h) (Or.inl ⟨by rfl, ?hy5⟩) (by assumption) ?rest5
              case hy5 => (intro w hSw; (try dsimp only at hSw); go_simp; try with_reducible rfl)
              simp only [Act.put, List.setIfInBounds_toArray, List.set_cons_zero, List.set_cons_succ]
              refine wpAnyH_take (i := 6) (oi := { dst := some 77, op := Go.Op.convert 3 25 (Go.Operand.tmp 76), type := 25, pos := "law.go:72", after := #[{ on := 5, ground := Go.Ground.data }], guard := none }) (v := ?_) rfl (by kernel_rfl) (by kernel_rfl) (by kernel_rfl) (fun _ _ _ h => h) (Or.inl ⟨by rfl, ?hy6⟩) (by assumption) ?rest6
              case hy6 => (intro w hSw; (try dsimp only at hSw); go_simp; try with_reducible rfl)
              simp only [Act.put, List.setIfInBounds_toArray, List.set_cons_zero, List.set_cons_succ]
              refine wpAnyH_take (i := 7) (oi := { dst := some 78, op := Go.Op.fieldAddr 27 (Go.Operand.tmp 7) 0, type := 0, pos := "law.go:72", after := #[], guard := none }) (v := ?_) rfl (by kernel_rfl) (by kernel_rfl) (by kernel_rfl) (fun _ _ _ h => h) (Or.inl ⟨by rfl, ?hy7⟩) (by assumption) ?rest7
              case hy7 => (intro w hSw; (try dsimp only at hSw); go_simp; try with_reducible rfl)
              simp only [Act.put, List.setIfInBounds_toArray, List.set_cons_zero, List.set_cons_succ]
              refine wpAnyH_take (i := 8) (oi := { dst := some 79, op := Go.Op.load 25 (Go.Operand.tmp 78), type := 25, pos := "law.go:72", after := #[{ on := 7, ground := Go.Ground.data }], guard := none }) (v := ?_) rfl (by kernel_rfl) (by kernel_rfl) (by kernel_rfl) (fun _ _ _ h => h) (Or.inl ⟨by rfl, ?hy8⟩) (by assumption) ?rest8
              case hy8 => (intro w hSw; (try dsimp only at hSw); go_simp; try with_reducible rfl)
              simp only [Act.put, List.setIfInBounds_toArray, List.set_cons_zero, List.set_cons_succ]
              refine wpAnyH_take (i := 9) (oi := { dst := some 80, op := Go.Op.binOp Go.BinOp.geq 25 (Go.Operand.tmp 77) (Go.Operand.tmp 79) 25, type := 4, pos := "law.go:72", after := #[{ on := 6, ground := Go.Ground.data }, { on := 8, ground := Go.Ground.data }], guard := none }) (v := ?_) rfl (by kernel_rfl) (by kernel_rfl) (by kernel_rfl) (fun _ _ _ h => h) (Or.inl ⟨by rfl, ?hy9⟩) (by assumption) ?rest9
              case hy9 => (intro w hSw; (try dsimp only at hSw); go_simp; try with_reducible rfl)
              simp only [Act.put, List.setIfInBounds_toArray, List.set_cons_zero, List.set_cons_succ]
              refine wpAnyH_ready (rs := [4]) (by kernel_rfl) (by simp) ?_
              refine AllReadyH.cons (o := { dst := some 75, op := Go.Op.call { callee := Go.Callee.value (Go.Operand.func 20), args := #[Go.Operand.tmp 71, Go.Operand.tmp 72, Go.Operand.tmp 73, Go.Operand.tmp 74], argTypes := #[23, 23, 3, 3] }, type := 4, pos := "law.go:72", after := #[{ on := 0, ground := Go.Ground.data }, { on := 1, ground := Go.Ground.data }, { on := 2, ground := Go.Ground.data }, { on := 3, ground := Go.Ground.data }], guard := none }) rfl (fun K hK => ?_) AllReadyH.nil
              go_simp
              go_at_call 20; refine (parts_any _ _ _ _ _ _ _ (by omega) (by omega) (by omega) (by omega)).mono ?_; rintro e w' ⟨rfl, hb1⟩
              refine hK.out _ _ (KS.out _ (below_call hHeld.2.2.2.2.2.2 hb1 (Below.size hHeld.2.2.2.2.2.2))) (fun hHeld => ?_)
              refine wpAnyH_take (i := 10) (oi := { dst := some 81, op := Go.Op.move (Go.Operand.tmp 80), type := 4, pos := "law.go:72", after := #[{ on := 9, ground := Go.Ground.data }, { on := 4, ground := Go.Ground.chain }], guard := none }) (v := ?_) rfl (by kernel_rfl) (by kernel_rfl) (by kernel_rfl) (fun _ _ _ h => h) (Or.inl ⟨by rfl, ?hy10⟩) (by assumption) ?rest10
              case hy10 => (intro w hSw; (try dsimp only at hSw); go_simp; try with_reducible rfl)
              simp only [Act.put, List.setIfInBounds_toArray, List.set_cons_zero, List.set_cons_succ]
              refine wpAnyH_take (i := 11) (oi := { dst := some 82, op := Go.Op.move (Go.Operand.tmp 10), type := 3, pos := "law.go:72", after := #[{ on := 10, ground := Go.Ground.guard }], guard := some (10, true) }) (v := undef) rfl (by kernel_rfl) (by kernel_rfl) (by kernel_rfl) (fun _ _ _ h => h) (Or.inr ⟨by rfl, rfl⟩) (by assumption) ?_
              simp only [Act.put, List.setIfInBounds_toArray, List.set_cons_zero, List.set_cons_succ]
              refine wpAnyH_take (i := 12) (oi := { dst := some 83, op := Go.Op.convert 3 25 (Go.Operand.tmp 82), type := 25, pos := "law.go:72", after := #[{ on := 11, ground := Go.Ground.data }, { on := 10, ground := Go.Ground.guard }], guard := some (10, true) }) (v := undef) rfl (by kernel_rfl) (by kernel_rfl) (by kernel_rfl) (fun _ _ _ h => h) (Or.inr ⟨by rfl, rfl⟩) (by assumption) ?_
              simp only [Act.put, List.setIfInBounds_toArray, List.set_cons_zero, List.set_cons_succ]
              refine wpAnyH_take (i := 13) (oi := { dst := some 84, op := Go.Op.fieldAddr 27 (Go.Operand.tmp 7) 1, type := 0, pos := "law.go:72", after := #[{ on := 10, ground := Go.Ground.guard }], guard := some (10, true) }) (v := undef) rfl (by kernel_rfl) (by kernel_rfl) (by kernel_rfl) (fun _ _ _ h => h) (Or.inr ⟨by rfl, rfl⟩) (by assumption) ?_
              simp only [Act.put, List.setIfInBounds_toArray, List.set_cons_zero, List.set_cons_succ]
              refine wpAnyH_take (i := 14) (oi := { dst := some 85, op := Go.Op.load 25 (Go.Operand.tmp 84), type := 25, pos := "law.go:72", after := #[{ on := 13, ground := Go.Ground.data }, { on := 10, ground := Go.Ground.guard }], guard := some (10, true) }) (v := undef) rfl (by kernel_rfl) (by kernel_rfl) (by kernel_rfl) (fun _ _ _ h => h) (Or.inr ⟨by rfl, rfl⟩) (by assumption) ?_
              simp only [Act.put, List.setIfInBounds_toArray, List.set_cons_zero, List.set_cons_succ]
              refine wpAnyH_take (i := 15) (oi := { dst := some 86, op := Go.Op.binOp Go.BinOp.leq 25 (Go.Operand.tmp 83) (Go.Operand.tmp 85) 25, type := 4, pos := "law.go:72", after := #[{ on := 12, ground := Go.Ground.data }, { on := 14, ground := Go.Ground.data }, { on := 10, ground := Go.Ground.guard }], guard := some (10, true) }) (v := undef) rfl (by kernel_rfl) (by kernel_rfl) (by kernel_rfl) (fun _ _ _ h => h) (Or.inr ⟨by rfl, rfl⟩) (by assumption) ?_
              simp only [Act.put, List.setIfInBounds_toArray, List.set_cons_zero, List.set_cons_succ]
              refine wpAnyH_take (i := 16) (oi := { dst := some 87, op := Go.Op.pick (Go.Operand.tmp 81) (Go.Operand.tmp 86) (Go.Operand.const (Go.Value.bool false)), type := 4, pos := "law.go:72", after := #[{ on := 10, ground := Go.Ground.data }, { on := 15, ground := Go.Ground.data }], guard := none }) (v := ?_) rfl (by kernel_rfl) (by kernel_rfl) (by kernel_rfl) (fun _ _ _ h => h) (Or.inl ⟨by rfl, ?hy16⟩) (by assumption) ?rest16
              case hy16 => (intro w hSw; (try dsimp only at hSw); go_simp; try with_reducible rfl)
              simp only [Act.put, List.setIfInBounds_toArray, List.set_cons_zero, List.set_cons_succ]
              refine wpAnyH_take (i := 17) (oi := { dst := some 88, op := Go.Op.binOp Go.BinOp.neq 4 (Go.Operand.tmp 75) (Go.Operand.tmp 87) 4, type := 4, pos := "law.go:72", after := #[{ on := 4, ground := Go.Ground.data }, { on := 16, ground := Go.Ground.data }], guard := none }) (v := ?_) rfl (by kernel_rfl) (by kernel_rfl) (by kernel_rfl) (fun _ _ _ h => h) (Or.inl ⟨by rfl, ?hy17⟩) (by assumption) ?rest17
              case hy17 => (intro w hSw; (try dsimp only at hSw); go_simp; try with_reducible rfl)
              simp only [Act.put, List.setIfInBounds_toArray, List.set_cons_zero, List.set_cons_succ]
              refine wpAnyH_done (by kernel_rfl) ?_ _
              refine NoPanic.normal ?_
              all_goals
                have HD := hid (‹_ ∧ _ ∧ _ ∧ _ ∧ _ ∧ _ ∧ _›).2.2.2.2.2.2
                go_wp2
                go_roundw
                case rel => first | exact ⟨k + 1, by omega, by go_num, HBR.out.trans (Below.mono HD.out HBR.out.size)⟩ | ((repeat apply Exists.intro); exact ⟨⟨k + 1, by omega, by go_num, HBR.out.trans (Below.mono HD.out HBR.out.size)⟩, rfl⟩)
                case measure => simp [intOf]; omega
          · go_wp2
            all_goals
              go_roundw
              case rel => first | exact ⟨k + 1, by omega, by go_num, HBR.out⟩ | ((repeat apply Exists.intro); exact ⟨⟨k + 1, by omega, by go_num, HBR.out⟩, rfl⟩)
              case measure => simp [intOf]; omega
        · go_wp2_with (first | (go_at_call 14; refine (awake_glob _ (GLW.out.of hbel)).mono ?_; rintro e w' ⟨rfl, hb1⟩))
          go_ret
          exact ⟨rfl, HBW.out.trans ((hbel.trans (hb1.mono hbel.size)).mono HBW.out.size)⟩
    · clear B5
      have S6 := hid (p := SixCells wc w.heap.size (w.heap.size + 1) g a b c d L H) ⟨k1, k2, k3, k4, h1, h2⟩
      go_wp2_with (first | (go_at_call 12; refine (near_any _ _ _ (by omega) (by omega) (by omega) (by omega)).mono ?_; rintro e w' ⟨v, rfl, hown, hb1⟩))
      obtain ⟨g2, cap, rfl, hg2, hg3, hcell⟩ := row11 hown
      have HC := hid hcell
      clear hown hcell
      have HS := hid (S6.out.of hb1)
      have HBW := hid (below_call HB5.out hb1 HB5.out.size)
      have GLW := hid (GL.out.of hb1)
      obtain ⟨wn, rfl⟩ : ∃ wn : World, wn = w' := ⟨_, rfl⟩
      clear hb1 k1 k2 k3 k4 k6 h1 h2 S6 HB5 GL gl hcc hff
      go_loopw [9] (fun i wr => ∃ k : Nat, k ≤ 11 ∧ i = .int .i64 k ∧ Below wn.heap.size wn wr) (fun i wr => 11 - (intOf i).toNat)
      case atStart => exact ⟨0, by omega, rfl, Below.refl _ _⟩
      case round =>
        obtain ⟨k, hk, rfl, hbel⟩ := hrel
        by_cases hlt : k < 11
        · obtain ⟨n, hn1, hn2, hn3⟩ := near_in (lo := L) (hi := H) (by omega) (by omega) (by omega) (by omega) hlt
          have hcl := still hbel ((HC.out k hlt).trans hn1)
          have HBR := hid hbel
          clear hbel hn1
          by_cases hin : 0 ≤ n ∧ n ≤ 4294967295
          · obtain ⟨n0, n1⟩ := hin
            have e := HM.out n n0 n1
            rw [HL.out, HH.out] at e
            have hwn : IntKind.u64.wrap n = n := by rw [wu]; omega
            have KS := hid (fun W hb => (HS.out.of HBR.out).held (W := W) hb)
            by_cases t1 : L ≤ n
            · by_cases t2 : n ≤ H
              · have e2 : partsB a b c d r n = true := e.trans (decide_eq_true ⟨t1, t2⟩)
                clear e
                go_wp2_with fail
                first | (go_region_held3 (fun w' => w'.cell? ⟨w.heap.size, 0, none⟩ = some (.int .i64 a) ∧ w'.cell? ⟨w.heap.size, 1, none⟩ = some (.int .i64 b) ∧ w'.cell? ⟨w.heap.size + 1, 0, none⟩ = some (.int .i64 c) ∧ w'.cell? ⟨w.heap.size + 1, 1, none⟩ = some (.int .i64 d) ∧ w'.cell? ⟨g, 0, none⟩ = some (.int .u64 L) ∧ w'.cell? ⟨g, 1, none⟩ = some (.int .u64 H) ∧ HoldS wr w') (first | assumption | exact KS.out _ (Below.refl _ _).drew | exact KS.out _ (below_call (‹_ ∧ _ ∧ _ ∧ _ ∧ _ ∧ _ ∧ _›).2.2.2.2.2.2 (by assumption) (Below.size (‹_ ∧ _ ∧ _ ∧ _ ∧ _ ∧ _ ∧ _›).2.2.2.2.2.2))) (first | (go_at_call 20; refine (parts_any _ _ _ _ _ _ _ (by omega) (by omega) (by omega) (by omega)).mono ?_; rintro e w' ⟨rfl, hb1⟩))) | fail
                all_goals
                  have HD := hid (‹_ ∧ _ ∧ _ ∧ _ ∧ _ ∧ _ ∧ _›).2.2.2.2.2.2
                  go_wp2
                  go_roundw
                  case rel => first | exact ⟨k + 1, by omega, by go_num, HBR.out.trans (Below.mono HD.out HBR.out.size)⟩ | ((repeat apply Exists.intro); exact ⟨⟨k + 1, by omega, by go_num, HBR.out.trans (Below.mono HD.out HBR.out.size)⟩, rfl⟩)
                  case measure => simp [intOf]; omega
              · have e2 : partsB a b c d r n = false := e.trans (decide_eq_false (fun q => t2 q.2))
                clear e
                go_wp2_with fail
                first | (go_region_held3 (fun w' => w'.cell? ⟨w.heap.size, 0, none⟩ = some (.int .i64 a) ∧ w'.cell? ⟨w.heap.size, 1, none⟩ = some (.int .i64 b) ∧ w'.cell? ⟨w.heap.size + 1, 0, none⟩ = some (.int .i64 c) ∧ w'.cell? ⟨w.heap.size + 1, 1, none⟩ = some (.int .i64 d) ∧ w'.cell? ⟨g, 0, none⟩ = some (.int .u64 L) ∧ w'.cell? ⟨g, 1, none⟩ = some (.int .u64 H) ∧ HoldS wr w') (first | assumption | exact KS.out _ (Below.refl _ _).drew | exact KS.out _ (below_call (‹_ ∧ _ ∧ _ ∧ _ ∧ _ ∧ _ ∧ _›).2.2.2.2.2.2 (by assumption) (Below.size (‹_ ∧ _ ∧ _ ∧ _ ∧ _ ∧ _ ∧ _›).2.2.2.2.2.2))) (first | (go_at_call 20; refine (parts_any _ _ _ _ _ _ _ (by omega) (by omega) (by omega) (by omega)).mono ?_; rintro e w' ⟨rfl, hb1⟩))) | fail
                all_goals
                  have HD := hid (‹_ ∧ _ ∧ _ ∧ _ ∧ _ ∧ _ ∧ _›).2.2.2.2.2.2
                  go_wp2
                  go_roundw
                  case rel => first | exact ⟨k + 1, by omega, by go_num, HBR.out.trans (Below.mono HD.out HBR.out.size)⟩ | ((repeat apply Exists.intro); exact ⟨⟨k + 1, by omega, by go_num, HBR.out.trans (Below.mono HD.out HBR.out.size)⟩, rfl⟩)
                  case measure => simp [intOf]; omega
            · have e2 : partsB a b c d r n = false := e.trans (decide_eq_false (fun q => t1 q.1))
              have hdt : decide (L ≤ n) = false := decide_eq_false t1
              clear e
              go_wp2_with fail
              refine wp_region_noPanic ?_
              refine wp_region_held_drew (S := (fun w' => w'.cell? ⟨w.heap.size, 0, none⟩ = some (.int .i64 a) ∧ w'.cell? ⟨w.heap.size, 1, none⟩ = some (.int .i64 b) ∧ w'.cell? ⟨w.heap.size + 1, 0, none⟩ = some (.int .i64 c) ∧ w'.cell? ⟨w.heap.size + 1, 1, none⟩ = some (.int .i64 d) ∧ w'.cell? ⟨g, 0, none⟩ = some (.int .u64 L) ∧ w'.cell? ⟨g, 1, none⟩ = some (.int .u64 H) ∧ HoldS wr w')) (by kernel_rfl) ?hSb (fun hHeld => ?gob)
              case hSb => exact KS.out _ (Below.refl _ _).drew
              refine wpAnyH_take (i := 0) (oi := { dst := some 71, op := Go.Op.load 23 (Go.Operand.tmp 3), type := 23, pos := "law.go:72", after := #[], guard := none }) (v := ?_) rfl (by kernel_rfl) (by kernel_rfl) (by kernel_rfl) (fun _ _ _ h => h) (Or.inl ⟨by rfl, ?hy0b⟩) (by assumption) ?rest0b
              case hy0b => (intro w hSw; (try dsimp only at hSw); go_simp; try with_reducible rfl)
              simp only [Act.put, List.setIfInBounds_toArray, List.set_cons_zero, List.set_cons_succ]
              refine wpAnyH_take (i := 1) (oi := { dst := some 72, op := Go.Op.load 23 (Go.Operand.tmp 4), type := 23, pos := "law.go:72", after := #[], guard := none }) (v := ?_) rfl (by kernel_rfl) (by kernel_rfl) (by kernel_rfl) (fun _ _ _ h => h) (Or.inl ⟨by rfl, ?hy1b⟩) (by assumption) ?rest1b
              case hy1b => (intro w hSw; (try dsimp only at hSw); go_simp; try with_reducible rfl)
              simp only [Act.put, List.setIfInBounds_toArray, List.set_cons_zero, List.set_cons_succ]
              refine wpAnyH_take (i := 2) (oi := { dst := some 73, op := Go.Op.move (Go.Operand.tmp 2), type := 3, pos := "law.go:72", after := #[], guard := none }) (v := ?_) rfl (by kernel_rfl) (by kernel_rfl) (by kernel_rfl) (fun _ _ _ h => h) (Or.inl ⟨by rfl, ?hy2b⟩) (by assumption) ?rest2b
              case hy2b => (intro w hSw; (try dsimp only at hSw); go_simp; try with_reducible rfl)
              simp only [Act.put, List.setIfInBounds_toArray, List.set_cons_zero, List.set_cons_succ]
              refine wpAnyH_take (i := 3) (oi := { dst := some 74, op := Go.Op.move (Go.Operand.tmp 10), type := 3, pos := "law.go:72", after := #[], guard := none }) (v := ?_) rfl (by kernel_rfl) (by kernel_rfl) (by kernel_rfl) (fun _ _ _ h => h) (Or.inl ⟨by rfl, ?hy3b⟩) (by assumption) ?rest3b
              case hy3b => (intro w hSw; (try dsimp only at hSw); go_simp; try with_reducible rfl)
              simp only [Act.put, List.setIfInBounds_toArray, List.set_cons_zero, List.set_cons_succ]
              refine wpAnyH_take (i := 5) (oi := { dst := some 76, op := Go.Op.move (Go.Operand.tmp 10), type := 3, pos := "law.go:72", after := #[], guard := none }) (v := ?_) rfl (by kernel_rfl) (by kernel_rfl) (by kernel_rfl) (fun _ _ _ h => h) (Or.inl ⟨by rfl, ?hy5b⟩) (by assumption) ?rest5b
              case hy5b => (intro w hSw; (try dsimp only at hSw); go_simp; try with_reducible rfl)
              simp only [Act.put, List.setIfInBounds_toArray, List.set_cons_zero, List.set_cons_succ]
              refine wpAnyH_take (i := 6) (oi := { dst := some 77, op := Go.Op.convert 3 25 (Go.Operand.tmp 76), type := 25, pos := "law.go:72", after := #[{ on := 5, ground := Go.Ground.data }], guard := none }) (v := ?_) rfl (by kernel_rfl) (by kernel_rfl) (by kernel_rfl) (fun _ _ _ h => h) (Or.inl ⟨by rfl, ?hy6b⟩) (by assumption) ?rest6b
              case hy6b => (intro w hSw; (try dsimp only at hSw); go_simp; try with_reducible rfl)
              simp only [Act.put, List.setIfInBounds_toArray, List.set_cons_zero, List.set_cons_succ]
              refine wpAnyH_take (i := 7) (oi := { dst := some 78, op := Go.Op.fieldAddr 27 (Go.Operand.tmp 7) 0, type := 0, pos := "law.go:72", after := #[], guard := none }) (v := ?_) rfl (by kernel_rfl) (by kernel_rfl) (by kernel_rfl) (fun _ _ _ h => h) (Or.inl ⟨by rfl, ?hy7b⟩) (by assumption) ?rest7b
              case hy7b => (intro w hSw; (try dsimp only at hSw); go_simp; try with_reducible rfl)
              simp only [Act.put, List.setIfInBounds_toArray, List.set_cons_zero, List.set_cons_succ]
              refine wpAnyH_take (i := 8) (oi := { dst := some 79, op := Go.Op.load 25 (Go.Operand.tmp 78), type := 25, pos := "law.go:72", after := #[{ on := 7, ground := Go.Ground.data }], guard := none }) (v := ?_) rfl (by kernel_rfl) (by kernel_rfl) (by kernel_rfl) (fun _ _ _ h => h) (Or.inl ⟨by rfl, ?hy8b⟩) (by assumption) ?rest8b
              case hy8b => (intro w hSw; (try dsimp only at hSw); go_simp; try with_reducible rfl)
              simp only [Act.put, List.setIfInBounds_toArray, List.set_cons_zero, List.set_cons_succ]
              refine wpAnyH_take (i := 9) (oi := { dst := some 80, op := Go.Op.binOp Go.BinOp.geq 25 (Go.Operand.tmp 77) (Go.Operand.tmp 79) 25, type := 4, pos := "law.go:72", after := #[{ on := 6, ground := Go.Ground.data }, { on := 8, ground := Go.Ground.data }], guard := none }) (v := ?_) rfl (by kernel_rfl) (by kernel_rfl) (by kernel_rfl) (fun _ _ _ h => h) (Or.inl ⟨by rfl, ?hy9b⟩) (by assumption) ?rest9b
              case hy9b => (intro w hSw; (try dsimp only at hSw); go_simp; try with_reducible rfl)
              simp only [Act.put, List.setIfInBounds_toArray, List.set_cons_zero, List.set_cons_succ]
              refine wpAnyH_ready (rs := [4]) (by kernel_rfl) (by simp) ?_
              refine AllReadyH.cons (o := { dst := some 75, op := Go.Op.call { callee := Go.Callee.value (Go.Operand.func 20), args := #[Go.Operand.tmp 71, Go.Operand.tmp 72, Go.Operand.tmp 73, Go.Operand.tmp 74], argTypes := #[23, 23, 3, 3] }, type := 4, pos := "law.go:72", after := #[{ on := 0, ground := Go.Ground.data }, { on := 1, ground := Go.Ground.data }, { on := 2, ground := Go.Ground.data }, { on := 3, ground := Go.Ground.data }], guard := none }) rfl (fun K hK => ?_) AllReadyH.nil
              go_simp
              go_at_call 20; refine (parts_any _ _ _ _ _ _ _ (by omega) (by omega) (by omega) (by omega)).mono ?_; rintro e w' ⟨rfl, hb1⟩
              refine hK.out _ _ (KS.out _ (below_call hHeld.2.2.2.2.2.2 hb1 (Below.size hHeld.2.2.2.2.2.2))) (fun hHeld => ?_)
              refine wpAnyH_take (i := 10) (oi := { dst := some 81, op := Go.Op.move (Go.Operand.tmp 80), type := 4, pos := "law.go:72", after := #[{ on := 9, ground := Go.Ground.data }, { on := 4, ground := Go.Ground.chain }], guard := none }) (v := ?_) rfl (by kernel_rfl) (by kernel_rfl) (by kernel_rfl) (fun _ _ _ h => h) (Or.inl ⟨by rfl, ?hy10b⟩) (by assumption) ?rest10b
              case hy10b => (intro w hSw; (try dsimp only at hSw); go_simp; try with_reducible rfl)
              simp only [Act.put, List.setIfInBounds_toArray, List.set_cons_zero, List.set_cons_succ]
              refine wpAnyH_take (i := 11) (oi := { dst := some 82, op := Go.Op.move (Go.Operand.tmp 10), type := 3, pos := "law.go:72", after := #[{ on := 10, ground := Go.Ground.guard }], guard := some (10, true) }) (v := undef) rfl (by kernel_rfl) (by kernel_rfl) (by kernel_rfl) (fun _ _ _ h => h) (Or.inr ⟨by rfl, rfl⟩) (by assumption) ?_
              simp only [Act.put, List.setIfInBounds_toArray, List.set_cons_zero, List.set_cons_succ]
              refine wpAnyH_take (i := 12) (oi := { dst := some 83, op := Go.Op.convert 3 25 (Go.Operand.tmp 82), type := 25, pos := "law.go:72", after := #[{ on := 11, ground := Go.Ground.data }, { on := 10, ground := Go.Ground.guard }], guard := some (10, true) }) (v := undef) rfl (by kernel_rfl) (by kernel_rfl) (by kernel_rfl) (fun _ _ _ h => h) (Or.inr ⟨by rfl, rfl⟩) (by assumption) ?_
              simp only [Act.put, List.setIfInBounds_toArray, List.set_cons_zero, List.set_cons_succ]
              refine wpAnyH_take (i := 13) (oi := { dst := some 84, op := Go.Op.fieldAddr 27 (Go.Operand.tmp 7) 1, type := 0, pos := "law.go:72", after := #[{ on := 10, ground := Go.Ground.guard }], guard := some (10, true) }) (v := undef) rfl (by kernel_rfl) (by kernel_rfl) (by kernel_rfl) (fun _ _ _ h => h) (Or.inr ⟨by rfl, rfl⟩) (by assumption) ?_
              simp only [Act.put, List.setIfInBounds_toArray, List.set_cons_zero, List.set_cons_succ]
              refine wpAnyH_take (i := 14) (oi := { dst := some 85, op := Go.Op.load 25 (Go.Operand.tmp 84), type := 25, pos := "law.go:72", after := #[{ on := 13, ground := Go.Ground.data }, { on := 10, ground := Go.Ground.guard }], guard := some (10, true) }) (v := undef) rfl (by kernel_rfl) (by kernel_rfl) (by kernel_rfl) (fun _ _ _ h => h) (Or.inr ⟨by rfl, rfl⟩) (by assumption) ?_
              simp only [Act.put, List.setIfInBounds_toArray, List.set_cons_zero, List.set_cons_succ]
              refine wpAnyH_take (i := 15) (oi := { dst := some 86, op := Go.Op.binOp Go.BinOp.leq 25 (Go.Operand.tmp 83) (Go.Operand.tmp 85) 25, type := 4, pos := "law.go:72", after := #[{ on := 12, ground := Go.Ground.data }, { on := 14, ground := Go.Ground.data }, { on := 10, ground := Go.Ground.guard }], guard := some (10, true) }) (v := undef) rfl (by kernel_rfl) (by kernel_rfl) (by kernel_rfl) (fun _ _ _ h => h) (Or.inr ⟨by rfl, rfl⟩) (by assumption) ?_
              simp only [Act.put, List.setIfInBounds_toArray, List.set_cons_zero, List.set_cons_succ]
              refine wpAnyH_take (i := 16) (oi := { dst := some 87, op := Go.Op.pick (Go.Operand.tmp 81) (Go.Operand.tmp 86) (Go.Operand.const (Go.Value.bool false)), type := 4, pos := "law.go:72", after := #[{ on := 10, ground := Go.Ground.data }, { on := 15, ground := Go.Ground.data }], guard := none }) (v := ?_) rfl (by kernel_rfl) (by kernel_rfl) (by kernel_rfl) (fun _ _ _ h => h) (Or.inl ⟨by rfl, ?hy16b⟩) (by assumption) ?rest16b
              case hy16b => (intro w hSw; (try dsimp only at hSw); go_simp; try with_reducible rfl)
              simp only [Act.put, List.setIfInBounds_toArray, List.set_cons_zero, List.set_cons_succ]
              refine wpAnyH_take (i := 17) (oi := { dst := some 88, op := Go.Op.binOp Go.BinOp.neq 4 (Go.Operand.tmp 75) (Go.Operand.tmp 87) 4, type := 4, pos := "law.go:72", after := #[{ on := 4, ground := Go.Ground.data }, { on := 16, ground := Go.Ground.data }], guard := none }) (v := ?_) rfl (by kernel_rfl) (by kernel_rfl) (by kernel_rfl) (fun _ _ _ h => h) (Or.inl ⟨by rfl, ?hy17b⟩) (by assumption) ?rest17b
              case hy17b => (intro w hSw; (try dsimp only at hSw); go_simp; try with_reducible rfl)
              simp only [Act.put, List.setIfInBounds_toArray, List.set_cons_zero, List.set_cons_succ]
              refine wpAnyH_done (by kernel_rfl) ?_ _
              refine NoPanic.normal ?_
              all_goals
                have HD := hid (‹_ ∧ _ ∧ _ ∧ _ ∧ _ ∧ _ ∧ _›).2.2.2.2.2.2
                go_wp2
                go_roundw
                case rel => first | exact ⟨k + 1, by omega, by go_num, HBR.out.trans (Below.mono HD.out HBR.out.size)⟩ | ((repeat apply Exists.intro); exact ⟨⟨k + 1, by omega, by go_num, HBR.out.trans (Below.mono HD.out HBR.out.size)⟩, rfl⟩)
                case measure => simp [intOf]; omega
          · go_wp2
            all_goals
              go_roundw
              case rel => first | exact ⟨k + 1, by omega, by go_num, HBR.out⟩ | ((repeat apply Exists.intro); exact ⟨⟨k + 1, by omega, by go_num, HBR.out⟩, rfl⟩)
              case measure => simp [intOf]; omega
        · go_wp2_with (first | (go_at_call 14; refine (awake_glob _ (GLW.out.of hbel)).mono ?_; rintro e w' ⟨rfl, hb1⟩))
          go_ret
          exact ⟨rfl, HBW.out.trans ((hbel.trans (hb1.mono hbel.size)).mono HBW.out.size)⟩

end Go.Proofs.YtlpocahflolmpaaDoor
