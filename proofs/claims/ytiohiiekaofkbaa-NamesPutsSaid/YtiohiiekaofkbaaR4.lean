/- May names be, by the reference: dobbyref14.text, list. -/
import Derived.Test.YtiohiiekaofkbaaR3
import Derived.Test.YtiohiiekaofkbaaU6
namespace Go.Proofs.Ytiohiiekaofkbaa
set_option linter.unusedVariables false
set_option linter.unusedSimpArgs false
open Go.RowKit Go.Proofs.Ytiohiiekaofkbaa.PNamesPuts Go.Proofs.YtiohiiekaofkbaaW.PrintWords

set_option maxHeartbeats 1000000 in
theorem rtext_walk (s : ByteArray) (w : World) (hs : s.size ≤ 1000000000) : Calls Try.prog 14 #[.string s] w (fun e w' => e = .returned (.bool (vld s)) ∧ Below w.heap.size w w') := by
  have hn := refNeed_walk s w hs
  have hv : vld s = ((need (ns s)).2 && (need (ns s)).1 == 0) := rfl
  rcases hR : need (ns s) with ⟨k, is⟩
  rw [hR] at hn hv
  simp only at hn hv
  have HN := hid hn
  rw [hv]
  clear hn hv hR
  go_enter Try.func14, Try.ntmps14
  go_wp2_with (first | (go_at_call 32; ((with_reducible refine HN.out.mono ?_); rintro e w' ⟨rfl, hb1⟩)))
  all_goals
    go_ret
    refine ⟨ret_bool ?_, hb1⟩
    first | rfl | (simp [*]; done)

def rIdx (l : List S41) (i : Nat) : Int := (rd_T41 l i).f0
def rVld (l : List S41) (i : Nat) : Bool := vld (rd_T41 l i).f1
theorem rIdx_up (l : List S41) (j : Nat) : upB (rIdx l) (j + 1) = decide ((rd_T41 l (j : Int)).f0 < (rd_T41 l ((j : Int) + 1)).f0) := by unfold upB; rw [show decide (j + 1 = 0) = false from by simp, Bool.false_or]; rfl
def rGood (l : List S41) (i : Nat) : Bool := rVld l i && upB (rIdx l) i
def rnamed (l : List S41) : Bool := allB (rGood l) l.length

theorem add_nought (ad : Addr) : ad.add (0 * 2) = ad := by
  unfold Addr.add
  split <;> simp_all
theorem keepT {p1 p2 p3 : Addr} {a b c : Value} {w W W' : World} {B : Nat} (h : W.cell? p1 = some a ∧ W.cell? p2 = some b ∧ W.cell? p3 = some c ∧ Below B w W ∧ B ≤ W.heap.size) (hb : Below W.heap.size W W') : W'.cell? p1 = some a ∧ W'.cell? p2 = some b ∧ W'.cell? p3 = some c ∧ Below B w W' ∧ B ≤ W'.heap.size := keepH4 h hb

set_option maxHeartbeats 8000000 in
theorem rlist_walk (A : Option Addr) (c : Nat) (l : List S41) (w : World) (hC : Kd.C k41 w A l.length l) (hl : l.length ≤ 1000000) (hU : rU32s l) :
    Calls Try.prog 15 #[.slice A l.length c] w (fun e w' => e = .returned (.bool (rnamed l)) ∧ Below w.heap.size w w') := by
  have hu := Try.underlying41
  have HC := hid hC
  have HU := hid hU
  clear hC hU
  go_enter Try.func15, Try.ntmps15
  go_wp2
  go_loopw [3] (fun v3 wr => ∃ i : Nat, v3 = .int .i64 i ∧ i ≤ l.length ∧ Hid (allB (rGood l) i = true) ∧ w.heap.size ≤ wr.heap.size ∧ Hid (Below w.heap.size w wr)) (fun v3 _ => l.length - (intOf v3).toNat)
  case atStart => exact ⟨0, by go_num, by omega, hid rfl, Nat.le_refl _, Below.refl _ _⟩
  case round =>
    obtain ⟨i, rfl, hi1, HA, hz, HB⟩ := hrel
    by_cases hlt : i < l.length
    · have hcr := Kd.C_below HC.out HB.out
      obtain ⟨ad, rfl, e1, e2⟩ := at_T41 hcr (i : Int) (by omega) (by omega)
      rw [Int.toNat_natCast] at e1 e2
      have hgi := rd_rName l i hlt
      have u2 : (rd_T41 l i).f1.size ≤ 1000000 := by rw [hgi]; exact (HU.out _ (List.getElem_mem hlt)).2.2
      have HT := hid (fun W => rtext_walk (rd_T41 l i).f1 W (by omega))
      have hi3 : (i : Int) < (l.length : Int) := by omega
      clear hgi
      rcases hv : rVld l i with _ | _
      · have hv2 : vld (rd_T41 l i).f1 = false := hv
        rw [hv2] at HT
        have HV := hid (show allB (rGood l) l.length = false from allB_not hlt (by rw [rGood, hv]; rfl))
        clear hv hv2 hcr
        go_upto_region 4 with (fail)
        have S0 : wr.cell? (ad.add (i * 2)) = some (.int .u32 (rd_T41 l i).f0) ∧ wr.cell? ⟨(ad.add (i * 2)).block, (ad.add (i * 2)).off + 1, none⟩ = some (.string (rd_T41 l i).f1) ∧ Below w.heap.size w wr ∧ w.heap.size ≤ wr.heap.size := ⟨e1, e2, HB.out, hz⟩
        clear e1 e2
        go_cut [34] (fun s34 wx => s34 = .bool true ∧ w.heap.size ≤ wx.heap.size ∧ Hid (Below w.heap.size w wx))
        case first =>
          refine wp_region_noPanic ?_
          refine wp_region_held_drew (S := (fun W => W.cell? (ad.add (i * 2)) = some (.int .u32 (rd_T41 l i).f0) ∧ W.cell? ⟨(ad.add (i * 2)).block, (ad.add (i * 2)).off + 1, none⟩ = some (.string (rd_T41 l i).f1) ∧ Below w.heap.size w W ∧ w.heap.size ≤ W.heap.size)) (by kernel_rfl) ?hSa (fun hHeld => ?goa)
          case hSa => first | exact S0 | assumption | exact keepH3 (by assumption) (by assumption) | exact keepH3 S0 (below_drew (Below.refl _ _))
          refine wpAnyH_take (i := 0) (oi := { dst := some 10, op := Go.Op.move (Go.Operand.tmp 0), type := 22, pos := "ref.go:39", after := #[], guard := none }) (v := ?_) rfl (by kernel_rfl) (by kernel_rfl) (by kernel_rfl) (fun _ _ _ h => h) (Or.inl ⟨by rfl, ?hy0a⟩) (by assumption) ?rest0a
          case hy0a => (intro w hSw; (try dsimp only at hSw); go_simp; first | (with_reducible rfl) | (rw [if_neg (by omega)]) | skip)
          simp only [Act.put, List.setIfInBounds_toArray, List.set_cons_zero, List.set_cons_succ]
          refine wpAnyH_take (i := 1) (oi := { dst := some 11, op := Go.Op.move (Go.Operand.tmp 3), type := 3, pos := "ref.go:39", after := #[], guard := none }) (v := ?_) rfl (by kernel_rfl) (by kernel_rfl) (by kernel_rfl) (fun _ _ _ h => h) (Or.inl ⟨by rfl, ?hy1a⟩) (by assumption) ?rest1a
          case hy1a => (intro w hSw; (try dsimp only at hSw); go_simp; first | (with_reducible rfl) | (rw [if_neg (by omega)]) | skip)
          simp only [Act.put, List.setIfInBounds_toArray, List.set_cons_zero, List.set_cons_succ]
          refine wpAnyH_take (i := 2) (oi := { dst := some 12, op := Go.Op.indexAddr 22 (Go.Operand.tmp 10) (Go.Operand.tmp 11), type := 0, pos := "ref.go:39", after := #[{ on := 0, ground := Go.Ground.data }, { on := 1, ground := Go.Ground.data }], guard := none }) (v := ?_) rfl (by kernel_rfl) (by kernel_rfl) (by kernel_rfl) (fun _ _ _ h => h) (Or.inl ⟨by rfl, ?hy2a⟩) (by assumption) ?rest2a
          case hy2a => (intro w hSw; (try dsimp only at hSw); go_simp; first | (with_reducible rfl) | (rw [if_neg (by omega)]) | skip)
          simp only [Act.put, List.setIfInBounds_toArray, List.set_cons_zero, List.set_cons_succ]
          refine wpAnyH_take (i := 3) (oi := { dst := some 13, op := Go.Op.fieldAddr 41 (Go.Operand.tmp 12) 1, type := 0, pos := "ref.go:39", after := #[{ on := 2, ground := Go.Ground.data }], guard := none }) (v := ?_) rfl (by kernel_rfl) (by kernel_rfl) (by kernel_rfl) (fun _ _ _ h => h) (Or.inl ⟨by rfl, ?hy3a⟩) (by assumption) ?rest3a
          case hy3a => (intro w hSw; (try dsimp only at hSw); go_simp; first | (with_reducible rfl) | (rw [if_neg (by omega)]) | skip)
          simp only [Act.put, List.setIfInBounds_toArray, List.set_cons_zero, List.set_cons_succ]
          refine wpAnyH_take (i := 4) (oi := { dst := some 14, op := Go.Op.load 9 (Go.Operand.tmp 13), type := 9, pos := "ref.go:39", after := #[{ on := 3, ground := Go.Ground.data }], guard := none }) (v := ?_) rfl (by kernel_rfl) (by kernel_rfl) (by kernel_rfl) (fun _ _ _ h => h) (Or.inl ⟨by rfl, ?hy4a⟩) (by assumption) ?rest4a
          case hy4a => (intro w hSw; (try dsimp only at hSw); go_simp; first | (with_reducible rfl) | (rw [if_neg (by omega)]) | skip)
          simp only [Act.put, List.setIfInBounds_toArray, List.set_cons_zero, List.set_cons_succ]
          refine wpAnyH_ready (rs := [5]) (by kernel_rfl) (by simp) ?_
          refine AllReadyH.cons (o := { dst := some 15, op := Go.Op.call { callee := Go.Callee.value (Go.Operand.func 14), args := #[Go.Operand.tmp 14], argTypes := #[9] }, type := 4, pos := "ref.go:39", after := #[{ on := 4, ground := Go.Ground.data }], guard := none }) rfl (fun K hK => ?_) AllReadyH.nil
          go_simp
          go_at_call 14; (with_reducible refine (HT.out _).mono ?_); rintro e w' ⟨rfl, hb1⟩
          refine hK.out _ _ ?_ (fun hHeld => ?_)
          · (try dsimp only); first | exact S0 | assumption | exact keepH3 (by assumption) (by assumption) | exact keepH3 S0 (below_drew (Below.refl _ _))
          clear hK K
          try simp only [Act.put, List.setIfInBounds_toArray, List.set_cons_zero, List.set_cons_succ]
          refine wpAnyH_take (i := 6) (oi := { dst := some 16, op := Go.Op.unOp Go.UnOp.not 4 (Go.Operand.tmp 15), type := 4, pos := "ref.go:39", after := #[{ on := 5, ground := Go.Ground.data }], guard := none }) (v := ?_) rfl (by kernel_rfl) (by kernel_rfl) (by kernel_rfl) (fun _ _ _ h => h) (Or.inl ⟨by rfl, ?hy6a⟩) (by assumption) ?rest6a
          case hy6a => (intro w hSw; (try dsimp only at hSw); go_simp; first | (with_reducible rfl) | (rw [if_neg (by omega)]) | skip)
          simp only [Act.put, List.setIfInBounds_toArray, List.set_cons_zero, List.set_cons_succ]
          refine wpAnyH_take (i := 7) (oi := { dst := some 17, op := Go.Op.move (Go.Operand.tmp 16), type := 4, pos := "ref.go:39", after := #[{ on := 6, ground := Go.Ground.data }, { on := 5, ground := Go.Ground.chain }], guard := none }) (v := ?_) rfl (by kernel_rfl) (by kernel_rfl) (by kernel_rfl) (fun _ _ _ h => h) (Or.inl ⟨by rfl, ?hy7a⟩) (by assumption) ?rest7a
          case hy7a => (intro w hSw; (try dsimp only at hSw); go_simp; first | (with_reducible rfl) | (rw [if_neg (by omega)]) | skip)
          simp only [Act.put, List.setIfInBounds_toArray, List.set_cons_zero, List.set_cons_succ]
          refine wpAnyH_take (i := 8) (oi := { dst := some 18, op := Go.Op.move (Go.Operand.tmp 3), type := 3, pos := "ref.go:39", after := #[{ on := 7, ground := Go.Ground.guard }], guard := some (7, false) }) (v := undef) rfl (by kernel_rfl) (by kernel_rfl) (by kernel_rfl) (fun _ _ _ h => h) (Or.inr ⟨by rfl, rfl⟩) (by assumption) ?_
          simp only [Act.put, List.setIfInBounds_toArray, List.set_cons_zero, List.set_cons_succ]
          refine wpAnyH_take (i := 9) (oi := { dst := some 19, op := Go.Op.binOp Go.BinOp.gtr 3 (Go.Operand.tmp 18) (Go.Operand.const (Go.Value.int Go.IntKind.i64 0)) 3, type := 4, pos := "ref.go:39", after := #[{ on := 8, ground := Go.Ground.data }, { on := 7, ground := Go.Ground.guard }], guard := some (7, false) }) (v := undef) rfl (by kernel_rfl) (by kernel_rfl) (by kernel_rfl) (fun _ _ _ h => h) (Or.inr ⟨by rfl, rfl⟩) (by assumption) ?_
          simp only [Act.put, List.setIfInBounds_toArray, List.set_cons_zero, List.set_cons_succ]
          refine wpAnyH_take (i := 10) (oi := { dst := some 20, op := Go.Op.move (Go.Operand.tmp 19), type := 4, pos := "ref.go:39", after := #[{ on := 9, ground := Go.Ground.data }, { on := 7, ground := Go.Ground.chain }, { on := 7, ground := Go.Ground.guard }], guard := some (7, false) }) (v := undef) rfl (by kernel_rfl) (by kernel_rfl) (by kernel_rfl) (fun _ _ _ h => h) (Or.inr ⟨by rfl, rfl⟩) (by assumption) ?_
          simp only [Act.put, List.setIfInBounds_toArray, List.set_cons_zero, List.set_cons_succ]
          refine wpAnyH_take (i := 11) (oi := { dst := some 21, op := Go.Op.move (Go.Operand.tmp 0), type := 22, pos := "ref.go:39", after := #[{ on := 10, ground := Go.Ground.guard }], guard := some (10, true) }) (v := undef) rfl (by kernel_rfl) (by kernel_rfl) (by kernel_rfl) (fun _ _ _ h => h) (Or.inr ⟨by rfl, rfl⟩) (by assumption) ?_
          simp only [Act.put, List.setIfInBounds_toArray, List.set_cons_zero, List.set_cons_succ]
          refine wpAnyH_take (i := 12) (oi := { dst := some 22, op := Go.Op.move (Go.Operand.tmp 3), type := 3, pos := "ref.go:39", after := #[{ on := 10, ground := Go.Ground.guard }], guard := some (10, true) }) (v := undef) rfl (by kernel_rfl) (by kernel_rfl) (by kernel_rfl) (fun _ _ _ h => h) (Or.inr ⟨by rfl, rfl⟩) (by assumption) ?_
          simp only [Act.put, List.setIfInBounds_toArray, List.set_cons_zero, List.set_cons_succ]
          refine wpAnyH_take (i := 13) (oi := { dst := some 23, op := Go.Op.indexAddr 22 (Go.Operand.tmp 21) (Go.Operand.tmp 22), type := 0, pos := "ref.go:39", after := #[{ on := 11, ground := Go.Ground.data }, { on := 12, ground := Go.Ground.data }, { on := 10, ground := Go.Ground.guard }], guard := some (10, true) }) (v := undef) rfl (by kernel_rfl) (by kernel_rfl) (by kernel_rfl) (fun _ _ _ h => h) (Or.inr ⟨by rfl, rfl⟩) (by assumption) ?_
          simp only [Act.put, List.setIfInBounds_toArray, List.set_cons_zero, List.set_cons_succ]
          refine wpAnyH_take (i := 14) (oi := { dst := some 24, op := Go.Op.fieldAddr 41 (Go.Operand.tmp 23) 0, type := 0, pos := "ref.go:39", after := #[{ on := 13, ground := Go.Ground.data }, { on := 10, ground := Go.Ground.guard }], guard := some (10, true) }) (v := undef) rfl (by kernel_rfl) (by kernel_rfl) (by kernel_rfl) (fun _ _ _ h => h) (Or.inr ⟨by rfl, rfl⟩) (by assumption) ?_
          simp only [Act.put, List.setIfInBounds_toArray, List.set_cons_zero, List.set_cons_succ]
          refine wpAnyH_take (i := 15) (oi := { dst := some 25, op := Go.Op.load 39 (Go.Operand.tmp 24), type := 39, pos := "ref.go:39", after := #[{ on := 14, ground := Go.Ground.data }, { on := 10, ground := Go.Ground.guard }], guard := some (10, true) }) (v := undef) rfl (by kernel_rfl) (by kernel_rfl) (by kernel_rfl) (fun _ _ _ h => h) (Or.inr ⟨by rfl, rfl⟩) (by assumption) ?_
          simp only [Act.put, List.setIfInBounds_toArray, List.set_cons_zero, List.set_cons_succ]
          refine wpAnyH_take (i := 16) (oi := { dst := some 26, op := Go.Op.move (Go.Operand.tmp 0), type := 22, pos := "ref.go:39", after := #[{ on := 10, ground := Go.Ground.guard }], guard := some (10, true) }) (v := undef) rfl (by kernel_rfl) (by kernel_rfl) (by kernel_rfl) (fun _ _ _ h => h) (Or.inr ⟨by rfl, rfl⟩) (by assumption) ?_
          simp only [Act.put, List.setIfInBounds_toArray, List.set_cons_zero, List.set_cons_succ]
          refine wpAnyH_take (i := 17) (oi := { dst := some 27, op := Go.Op.move (Go.Operand.tmp 3), type := 3, pos := "ref.go:39", after := #[{ on := 10, ground := Go.Ground.guard }], guard := some (10, true) }) (v := undef) rfl (by kernel_rfl) (by kernel_rfl) (by kernel_rfl) (fun _ _ _ h => h) (Or.inr ⟨by rfl, rfl⟩) (by assumption) ?_
          simp only [Act.put, List.setIfInBounds_toArray, List.set_cons_zero, List.set_cons_succ]
          refine wpAnyH_take (i := 18) (oi := { dst := some 28, op := Go.Op.binOp Go.BinOp.sub 3 (Go.Operand.tmp 27) (Go.Operand.const (Go.Value.int Go.IntKind.i64 1)) 3, type := 3, pos := "ref.go:39", after := #[{ on := 17, ground := Go.Ground.data }, { on := 10, ground := Go.Ground.guard }], guard := some (10, true) }) (v := undef) rfl (by kernel_rfl) (by kernel_rfl) (by kernel_rfl) (fun _ _ _ h => h) (Or.inr ⟨by rfl, rfl⟩) (by assumption) ?_
          simp only [Act.put, List.setIfInBounds_toArray, List.set_cons_zero, List.set_cons_succ]
          refine wpAnyH_take (i := 19) (oi := { dst := some 29, op := Go.Op.indexAddr 22 (Go.Operand.tmp 26) (Go.Operand.tmp 28), type := 0, pos := "ref.go:39", after := #[{ on := 16, ground := Go.Ground.data }, { on := 18, ground := Go.Ground.data }, { on := 10, ground := Go.Ground.guard }], guard := some (10, true) }) (v := undef) rfl (by kernel_rfl) (by kernel_rfl) (by kernel_rfl) (fun _ _ _ h => h) (Or.inr ⟨by rfl, rfl⟩) (by assumption) ?_
          simp only [Act.put, List.setIfInBounds_toArray, List.set_cons_zero, List.set_cons_succ]
          refine wpAnyH_take (i := 20) (oi := { dst := some 30, op := Go.Op.fieldAddr 41 (Go.Operand.tmp 29) 0, type := 0, pos := "ref.go:39", after := #[{ on := 19, ground := Go.Ground.data }, { on := 10, ground := Go.Ground.guard }], guard := some (10, true) }) (v := undef) rfl (by kernel_rfl) (by kernel_rfl) (by kernel_rfl) (fun _ _ _ h => h) (Or.inr ⟨by rfl, rfl⟩) (by assumption) ?_
          simp only [Act.put, List.setIfInBounds_toArray, List.set_cons_zero, List.set_cons_succ]
          refine wpAnyH_take (i := 21) (oi := { dst := some 31, op := Go.Op.load 39 (Go.Operand.tmp 30), type := 39, pos := "ref.go:39", after := #[{ on := 20, ground := Go.Ground.data }, { on := 10, ground := Go.Ground.guard }], guard := some (10, true) }) (v := undef) rfl (by kernel_rfl) (by kernel_rfl) (by kernel_rfl) (fun _ _ _ h => h) (Or.inr ⟨by rfl, rfl⟩) (by assumption) ?_
          simp only [Act.put, List.setIfInBounds_toArray, List.set_cons_zero, List.set_cons_succ]
          refine wpAnyH_take (i := 22) (oi := { dst := some 32, op := Go.Op.binOp Go.BinOp.leq 39 (Go.Operand.tmp 25) (Go.Operand.tmp 31) 39, type := 4, pos := "ref.go:39", after := #[{ on := 15, ground := Go.Ground.data }, { on := 21, ground := Go.Ground.data }, { on := 10, ground := Go.Ground.guard }], guard := some (10, true) }) (v := undef) rfl (by kernel_rfl) (by kernel_rfl) (by kernel_rfl) (fun _ _ _ h => h) (Or.inr ⟨by rfl, rfl⟩) (by assumption) ?_
          simp only [Act.put, List.setIfInBounds_toArray, List.set_cons_zero, List.set_cons_succ]
          refine wpAnyH_take (i := 23) (oi := { dst := some 33, op := Go.Op.pick (Go.Operand.tmp 20) (Go.Operand.tmp 32) (Go.Operand.const (Go.Value.bool false)), type := 4, pos := "ref.go:39", after := #[{ on := 10, ground := Go.Ground.data }, { on := 22, ground := Go.Ground.data }, { on := 7, ground := Go.Ground.guard }], guard := some (7, false) }) (v := undef) rfl (by kernel_rfl) (by kernel_rfl) (by kernel_rfl) (fun _ _ _ h => h) (Or.inr ⟨by rfl, rfl⟩) (by assumption) ?_
          simp only [Act.put, List.setIfInBounds_toArray, List.set_cons_zero, List.set_cons_succ]
          refine wpAnyH_take (i := 24) (oi := { dst := some 34, op := Go.Op.pick (Go.Operand.tmp 17) (Go.Operand.const (Go.Value.bool true)) (Go.Operand.tmp 33), type := 4, pos := "ref.go:39", after := #[{ on := 7, ground := Go.Ground.data }, { on := 23, ground := Go.Ground.data }], guard := none }) (v := ?_) rfl (by kernel_rfl) (by kernel_rfl) (by kernel_rfl) (fun _ _ _ h => h) (Or.inl ⟨by rfl, ?hy24a⟩) (by assumption) ?rest24a
          case hy24a => (intro w hSw; (try dsimp only at hSw); go_simp; first | (with_reducible rfl) | (rw [if_neg (by omega)]) | skip)
          simp only [Act.put, List.setIfInBounds_toArray, List.set_cons_zero, List.set_cons_succ]
          refine wpAnyH_done (by kernel_rfl) ?_ _
          refine NoPanic.normal ?_
          go_wp2_with fail
          go_meet
          exact ⟨rfl, hHeld.2.2.2, hid hHeld.2.2.1⟩
        case rest =>
          obtain ⟨rfl, hsx, HX⟩ := hcut
          go_wp2
          go_ret
          exact ⟨ret_bool HV.out.symm, HX.out⟩
      · have hv2 : vld (rd_T41 l i).f1 = true := hv
        rw [hv2] at HT
        rcases i with _ | j
        · have HV := hid (show allB (rGood l) (0 + 1) = true from by rw [allB, HA.out, rGood, hv]; rfl)
          have ea : ad.add (0 * 2) = ad := add_nought ad
          rw [ea, show (((0 : Nat) : Int)) = 0 from rfl] at e1 e2
          rw [show (((0 : Nat) : Int)) = 0 from rfl] at HT
          clear hv hv2 hcr ea
          go_upto_region 4 with (fail)
          have S0 : wr.cell? (ad) = some (.int .u32 (rd_T41 l 0).f0) ∧ wr.cell? ⟨ad.block, ad.off + 1, none⟩ = some (.string (rd_T41 l 0).f1) ∧ Below w.heap.size w wr ∧ w.heap.size ≤ wr.heap.size := ⟨e1, e2, HB.out, hz⟩
          clear e1 e2
          go_cut [34] (fun s34 wx => s34 = .bool false ∧ w.heap.size ≤ wx.heap.size ∧ Hid (Below w.heap.size w wx))
          case first =>
            refine wp_region_noPanic ?_
            refine wp_region_held_drew (S := (fun W => W.cell? (ad) = some (.int .u32 (rd_T41 l 0).f0) ∧ W.cell? ⟨ad.block, ad.off + 1, none⟩ = some (.string (rd_T41 l 0).f1) ∧ Below w.heap.size w W ∧ w.heap.size ≤ W.heap.size)) (by kernel_rfl) ?hSb (fun hHeld => ?gob)
            case hSb => first | exact S0 | assumption | exact keepH3 (by assumption) (by assumption) | exact keepH3 S0 (below_drew (Below.refl _ _))
            refine wpAnyH_take (i := 0) (oi := { dst := some 10, op := Go.Op.move (Go.Operand.tmp 0), type := 22, pos := "ref.go:39", after := #[], guard := none }) (v := ?_) rfl (by kernel_rfl) (by kernel_rfl) (by kernel_rfl) (fun _ _ _ h => h) (Or.inl ⟨by rfl, ?hy0b⟩) (by assumption) ?rest0b
            case hy0b => (intro w hSw; (try dsimp only at hSw); go_simp; first | (with_reducible rfl) | (rw [if_neg (by omega)]) | skip)
            simp only [Act.put, List.setIfInBounds_toArray, List.set_cons_zero, List.set_cons_succ]
            refine wpAnyH_take (i := 1) (oi := { dst := some 11, op := Go.Op.move (Go.Operand.tmp 3), type := 3, pos := "ref.go:39", after := #[], guard := none }) (v := ?_) rfl (by kernel_rfl) (by kernel_rfl) (by kernel_rfl) (fun _ _ _ h => h) (Or.inl ⟨by rfl, ?hy1b⟩) (by assumption) ?rest1b
            case hy1b => (intro w hSw; (try dsimp only at hSw); go_simp; first | (with_reducible rfl) | (rw [if_neg (by omega)]) | skip)
            simp only [Act.put, List.setIfInBounds_toArray, List.set_cons_zero, List.set_cons_succ]
            refine wpAnyH_take (i := 2) (oi := { dst := some 12, op := Go.Op.indexAddr 22 (Go.Operand.tmp 10) (Go.Operand.tmp 11), type := 0, pos := "ref.go:39", after := #[{ on := 0, ground := Go.Ground.data }, { on := 1, ground := Go.Ground.data }], guard := none }) (v := ?_) rfl (by kernel_rfl) (by kernel_rfl) (by kernel_rfl) (fun _ _ _ h => h) (Or.inl ⟨by rfl, ?hy2b⟩) (by assumption) ?rest2b
            case hy2b => (intro w hSw; (try dsimp only at hSw); go_simp; first | (with_reducible rfl) | (rw [if_neg (by omega)]) | skip)
            simp only [Act.put, List.setIfInBounds_toArray, List.set_cons_zero, List.set_cons_succ]
            refine wpAnyH_take (i := 3) (oi := { dst := some 13, op := Go.Op.fieldAddr 41 (Go.Operand.tmp 12) 1, type := 0, pos := "ref.go:39", after := #[{ on := 2, ground := Go.Ground.data }], guard := none }) (v := ?_) rfl (by kernel_rfl) (by kernel_rfl) (by kernel_rfl) (fun _ _ _ h => h) (Or.inl ⟨by rfl, ?hy3b⟩) (by assumption) ?rest3b
            case hy3b => (intro w hSw; (try dsimp only at hSw); go_simp; first | (with_reducible rfl) | (rw [if_neg (by omega)]) | skip)
            simp only [Act.put, List.setIfInBounds_toArray, List.set_cons_zero, List.set_cons_succ]
            refine wpAnyH_take (i := 4) (oi := { dst := some 14, op := Go.Op.load 9 (Go.Operand.tmp 13), type := 9, pos := "ref.go:39", after := #[{ on := 3, ground := Go.Ground.data }], guard := none }) (v := ?_) rfl (by kernel_rfl) (by kernel_rfl) (by kernel_rfl) (fun _ _ _ h => h) (Or.inl ⟨by rfl, ?hy4b⟩) (by assumption) ?rest4b
            case hy4b => (intro w hSw; (try dsimp only at hSw); go_simp; first | (with_reducible rfl) | (rw [if_neg (by omega)]) | skip)
            simp only [Act.put, List.setIfInBounds_toArray, List.set_cons_zero, List.set_cons_succ]
            refine wpAnyH_ready (rs := [5]) (by kernel_rfl) (by simp) ?_
            refine AllReadyH.cons (o := { dst := some 15, op := Go.Op.call { callee := Go.Callee.value (Go.Operand.func 14), args := #[Go.Operand.tmp 14], argTypes := #[9] }, type := 4, pos := "ref.go:39", after := #[{ on := 4, ground := Go.Ground.data }], guard := none }) rfl (fun K hK => ?_) AllReadyH.nil
            go_simp
            go_at_call 14; (with_reducible refine (HT.out _).mono ?_); rintro e w' ⟨rfl, hb1⟩
            refine hK.out _ _ ?_ (fun hHeld => ?_)
            · (try dsimp only); first | exact S0 | assumption | exact keepH3 (by assumption) (by assumption) | exact keepH3 S0 (below_drew (Below.refl _ _))
            clear hK K
            try simp only [Act.put, List.setIfInBounds_toArray, List.set_cons_zero, List.set_cons_succ]
            refine wpAnyH_take (i := 6) (oi := { dst := some 16, op := Go.Op.unOp Go.UnOp.not 4 (Go.Operand.tmp 15), type := 4, pos := "ref.go:39", after := #[{ on := 5, ground := Go.Ground.data }], guard := none }) (v := ?_) rfl (by kernel_rfl) (by kernel_rfl) (by kernel_rfl) (fun _ _ _ h => h) (Or.inl ⟨by rfl, ?hy6b⟩) (by assumption) ?rest6b
            case hy6b => (intro w hSw; (try dsimp only at hSw); go_simp; first | (with_reducible rfl) | (rw [if_neg (by omega)]) | skip)
            simp only [Act.put, List.setIfInBounds_toArray, List.set_cons_zero, List.set_cons_succ]
            refine wpAnyH_take (i := 7) (oi := { dst := some 17, op := Go.Op.move (Go.Operand.tmp 16), type := 4, pos := "ref.go:39", after := #[{ on := 6, ground := Go.Ground.data }, { on := 5, ground := Go.Ground.chain }], guard := none }) (v := ?_) rfl (by kernel_rfl) (by kernel_rfl) (by kernel_rfl) (fun _ _ _ h => h) (Or.inl ⟨by rfl, ?hy7b⟩) (by assumption) ?rest7b
            case hy7b => (intro w hSw; (try dsimp only at hSw); go_simp; first | (with_reducible rfl) | (rw [if_neg (by omega)]) | skip)
            simp only [Act.put, List.setIfInBounds_toArray, List.set_cons_zero, List.set_cons_succ]
            refine wpAnyH_take (i := 8) (oi := { dst := some 18, op := Go.Op.move (Go.Operand.tmp 3), type := 3, pos := "ref.go:39", after := #[{ on := 7, ground := Go.Ground.guard }], guard := some (7, false) }) (v := ?_) rfl (by kernel_rfl) (by kernel_rfl) (by kernel_rfl) (fun _ _ _ h => h) (Or.inl ⟨by rfl, ?hy8b⟩) (by assumption) ?rest8b
            case hy8b => (intro w hSw; (try dsimp only at hSw); go_simp; first | (with_reducible rfl) | (rw [if_neg (by omega)]) | skip)
            simp only [Act.put, List.setIfInBounds_toArray, List.set_cons_zero, List.set_cons_succ]
            refine wpAnyH_take (i := 9) (oi := { dst := some 19, op := Go.Op.binOp Go.BinOp.gtr 3 (Go.Operand.tmp 18) (Go.Operand.const (Go.Value.int Go.IntKind.i64 0)) 3, type := 4, pos := "ref.go:39", after := #[{ on := 8, ground := Go.Ground.data }, { on := 7, ground := Go.Ground.guard }], guard := some (7, false) }) (v := ?_) rfl (by kernel_rfl) (by kernel_rfl) (by kernel_rfl) (fun _ _ _ h => h) (Or.inl ⟨by rfl, ?hy9b⟩) (by assumption) ?rest9b
            case hy9b => (intro w hSw; (try dsimp only at hSw); go_simp; first | (with_reducible rfl) | (rw [if_neg (by omega)]) | skip)
            simp only [Act.put, List.setIfInBounds_toArray, List.set_cons_zero, List.set_cons_succ]
            refine wpAnyH_take (i := 10) (oi := { dst := some 20, op := Go.Op.move (Go.Operand.tmp 19), type := 4, pos := "ref.go:39", after := #[{ on := 9, ground := Go.Ground.data }, { on := 7, ground := Go.Ground.chain }, { on := 7, ground := Go.Ground.guard }], guard := some (7, false) }) (v := ?_) rfl (by kernel_rfl) (by kernel_rfl) (by kernel_rfl) (fun _ _ _ h => h) (Or.inl ⟨by rfl, ?hy10b⟩) (by assumption) ?rest10b
            case hy10b => (intro w hSw; (try dsimp only at hSw); go_simp; first | (with_reducible rfl) | (rw [if_neg (by omega)]) | skip)
            simp only [Act.put, List.setIfInBounds_toArray, List.set_cons_zero, List.set_cons_succ]
            refine wpAnyH_take (i := 11) (oi := { dst := some 21, op := Go.Op.move (Go.Operand.tmp 0), type := 22, pos := "ref.go:39", after := #[{ on := 10, ground := Go.Ground.guard }], guard := some (10, true) }) (v := undef) rfl (by kernel_rfl) (by kernel_rfl) (by kernel_rfl) (fun _ _ _ h => h) (Or.inr ⟨by rfl, rfl⟩) (by assumption) ?_
            simp only [Act.put, List.setIfInBounds_toArray, List.set_cons_zero, List.set_cons_succ]
            refine wpAnyH_take (i := 12) (oi := { dst := some 22, op := Go.Op.move (Go.Operand.tmp 3), type := 3, pos := "ref.go:39", after := #[{ on := 10, ground := Go.Ground.guard }], guard := some (10, true) }) (v := undef) rfl (by kernel_rfl) (by kernel_rfl) (by kernel_rfl) (fun _ _ _ h => h) (Or.inr ⟨by rfl, rfl⟩) (by assumption) ?_
            simp only [Act.put, List.setIfInBounds_toArray, List.set_cons_zero, List.set_cons_succ]
            refine wpAnyH_take (i := 13) (oi := { dst := some 23, op := Go.Op.indexAddr 22 (Go.Operand.tmp 21) (Go.Operand.tmp 22), type := 0, pos := "ref.go:39", after := #[{ on := 11, ground := Go.Ground.data }, { on := 12, ground := Go.Ground.data }, { on := 10, ground := Go.Ground.guard }], guard := some (10, true) }) (v := undef) rfl (by kernel_rfl) (by kernel_rfl) (by kernel_rfl) (fun _ _ _ h => h) (Or.inr ⟨by rfl, rfl⟩) (by assumption) ?_
            simp only [Act.put, List.setIfInBounds_toArray, List.set_cons_zero, List.set_cons_succ]
            refine wpAnyH_take (i := 14) (oi := { dst := some 24, op := Go.Op.fieldAddr 41 (Go.Operand.tmp 23) 0, type := 0, pos := "ref.go:39", after := #[{ on := 13, ground := Go.Ground.data }, { on := 10, ground := Go.Ground.guard }], guard := some (10, true) }) (v := undef) rfl (by kernel_rfl) (by kernel_rfl) (by kernel_rfl) (fun _ _ _ h => h) (Or.inr ⟨by rfl, rfl⟩) (by assumption) ?_
            simp only [Act.put, List.setIfInBounds_toArray, List.set_cons_zero, List.set_cons_succ]
            refine wpAnyH_take (i := 15) (oi := { dst := some 25, op := Go.Op.load 39 (Go.Operand.tmp 24), type := 39, pos := "ref.go:39", after := #[{ on := 14, ground := Go.Ground.data }, { on := 10, ground := Go.Ground.guard }], guard := some (10, true) }) (v := undef) rfl (by kernel_rfl) (by kernel_rfl) (by kernel_rfl) (fun _ _ _ h => h) (Or.inr ⟨by rfl, rfl⟩) (by assumption) ?_
            simp only [Act.put, List.setIfInBounds_toArray, List.set_cons_zero, List.set_cons_succ]
            refine wpAnyH_take (i := 16) (oi := { dst := some 26, op := Go.Op.move (Go.Operand.tmp 0), type := 22, pos := "ref.go:39", after := #[{ on := 10, ground := Go.Ground.guard }], guard := some (10, true) }) (v := undef) rfl (by kernel_rfl) (by kernel_rfl) (by kernel_rfl) (fun _ _ _ h => h) (Or.inr ⟨by rfl, rfl⟩) (by assumption) ?_
            simp only [Act.put, List.setIfInBounds_toArray, List.set_cons_zero, List.set_cons_succ]
            refine wpAnyH_take (i := 17) (oi := { dst := some 27, op := Go.Op.move (Go.Operand.tmp 3), type := 3, pos := "ref.go:39", after := #[{ on := 10, ground := Go.Ground.guard }], guard := some (10, true) }) (v := undef) rfl (by kernel_rfl) (by kernel_rfl) (by kernel_rfl) (fun _ _ _ h => h) (Or.inr ⟨by rfl, rfl⟩) (by assumption) ?_
            simp only [Act.put, List.setIfInBounds_toArray, List.set_cons_zero, List.set_cons_succ]
            refine wpAnyH_take (i := 18) (oi := { dst := some 28, op := Go.Op.binOp Go.BinOp.sub 3 (Go.Operand.tmp 27) (Go.Operand.const (Go.Value.int Go.IntKind.i64 1)) 3, type := 3, pos := "ref.go:39", after := #[{ on := 17, ground := Go.Ground.data }, { on := 10, ground := Go.Ground.guard }], guard := some (10, true) }) (v := undef) rfl (by kernel_rfl) (by kernel_rfl) (by kernel_rfl) (fun _ _ _ h => h) (Or.inr ⟨by rfl, rfl⟩) (by assumption) ?_
            simp only [Act.put, List.setIfInBounds_toArray, List.set_cons_zero, List.set_cons_succ]
            refine wpAnyH_take (i := 19) (oi := { dst := some 29, op := Go.Op.indexAddr 22 (Go.Operand.tmp 26) (Go.Operand.tmp 28), type := 0, pos := "ref.go:39", after := #[{ on := 16, ground := Go.Ground.data }, { on := 18, ground := Go.Ground.data }, { on := 10, ground := Go.Ground.guard }], guard := some (10, true) }) (v := undef) rfl (by kernel_rfl) (by kernel_rfl) (by kernel_rfl) (fun _ _ _ h => h) (Or.inr ⟨by rfl, rfl⟩) (by assumption) ?_
            simp only [Act.put, List.setIfInBounds_toArray, List.set_cons_zero, List.set_cons_succ]
            refine wpAnyH_take (i := 20) (oi := { dst := some 30, op := Go.Op.fieldAddr 41 (Go.Operand.tmp 29) 0, type := 0, pos := "ref.go:39", after := #[{ on := 19, ground := Go.Ground.data }, { on := 10, ground := Go.Ground.guard }], guard := some (10, true) }) (v := undef) rfl (by kernel_rfl) (by kernel_rfl) (by kernel_rfl) (fun _ _ _ h => h) (Or.inr ⟨by rfl, rfl⟩) (by assumption) ?_
            simp only [Act.put, List.setIfInBounds_toArray, List.set_cons_zero, List.set_cons_succ]
            refine wpAnyH_take (i := 21) (oi := { dst := some 31, op := Go.Op.load 39 (Go.Operand.tmp 30), type := 39, pos := "ref.go:39", after := #[{ on := 20, ground := Go.Ground.data }, { on := 10, ground := Go.Ground.guard }], guard := some (10, true) }) (v := undef) rfl (by kernel_rfl) (by kernel_rfl) (by kernel_rfl) (fun _ _ _ h => h) (Or.inr ⟨by rfl, rfl⟩) (by assumption) ?_
            simp only [Act.put, List.setIfInBounds_toArray, List.set_cons_zero, List.set_cons_succ]
            refine wpAnyH_take (i := 22) (oi := { dst := some 32, op := Go.Op.binOp Go.BinOp.leq 39 (Go.Operand.tmp 25) (Go.Operand.tmp 31) 39, type := 4, pos := "ref.go:39", after := #[{ on := 15, ground := Go.Ground.data }, { on := 21, ground := Go.Ground.data }, { on := 10, ground := Go.Ground.guard }], guard := some (10, true) }) (v := undef) rfl (by kernel_rfl) (by kernel_rfl) (by kernel_rfl) (fun _ _ _ h => h) (Or.inr ⟨by rfl, rfl⟩) (by assumption) ?_
            simp only [Act.put, List.setIfInBounds_toArray, List.set_cons_zero, List.set_cons_succ]
            refine wpAnyH_take (i := 23) (oi := { dst := some 33, op := Go.Op.pick (Go.Operand.tmp 20) (Go.Operand.tmp 32) (Go.Operand.const (Go.Value.bool false)), type := 4, pos := "ref.go:39", after := #[{ on := 10, ground := Go.Ground.data }, { on := 22, ground := Go.Ground.data }, { on := 7, ground := Go.Ground.guard }], guard := some (7, false) }) (v := ?_) rfl (by kernel_rfl) (by kernel_rfl) (by kernel_rfl) (fun _ _ _ h => h) (Or.inl ⟨by rfl, ?hy23b⟩) (by assumption) ?rest23b
            case hy23b => (intro w hSw; (try dsimp only at hSw); go_simp; first | (with_reducible rfl) | (rw [if_neg (by omega)]) | skip)
            simp only [Act.put, List.setIfInBounds_toArray, List.set_cons_zero, List.set_cons_succ]
            refine wpAnyH_take (i := 24) (oi := { dst := some 34, op := Go.Op.pick (Go.Operand.tmp 17) (Go.Operand.const (Go.Value.bool true)) (Go.Operand.tmp 33), type := 4, pos := "ref.go:39", after := #[{ on := 7, ground := Go.Ground.data }, { on := 23, ground := Go.Ground.data }], guard := none }) (v := ?_) rfl (by kernel_rfl) (by kernel_rfl) (by kernel_rfl) (fun _ _ _ h => h) (Or.inl ⟨by rfl, ?hy24b⟩) (by assumption) ?rest24b
            case hy24b => (intro w hSw; (try dsimp only at hSw); go_simp; first | (with_reducible rfl) | (rw [if_neg (by omega)]) | skip)
            simp only [Act.put, List.setIfInBounds_toArray, List.set_cons_zero, List.set_cons_succ]
            refine wpAnyH_done (by kernel_rfl) ?_ _
            refine NoPanic.normal ?_
            go_wp2_with fail
            go_meet
            exact ⟨rfl, hHeld.2.2.2, hid hHeld.2.2.1⟩
          case rest =>
            obtain ⟨rfl, hsx, HX⟩ := hcut
            go_wp2
            go_roundw
            case rel => exact ⟨0 + 1, by go_num, by omega, HV, hsx, HX⟩
            case measure => simp [intOf]; omega
        · obtain ⟨ad', he, e3, e4⟩ := at_T41 hcr (j : Int) (by omega) (by omega)
          obtain rfl := Option.some.inj he
          rw [Int.toNat_natCast] at e3 e4
          rw [show (((j + 1 : Nat) : Int)) = (j : Int) + 1 by omega] at e1 e2 HT
          have hi4 : (j : Int) < (l.length : Int) := by omega
          have hi5 : (0 : Int) ≤ (j : Int) + 1 := by omega
          have hi6 : (j : Int) + 1 < (l.length : Int) := by omega
          have hi7 : (0 : Int) < (j : Int) + 1 := by omega
          have hw1 : IntKind.i64.wrap ((j : Int) + 1 - 1) = (j : Int) := by rw [IntKind.wrap_i64]; omega
          have hw2 : IntKind.i64.wrap (j : Int) = (j : Int) := by rw [IntKind.wrap_i64]; omega
          have HG := hid (show rGood l (j + 1) = decide ((rd_T41 l (j : Int)).f0 < (rd_T41 l ((j : Int) + 1)).f0) from by rw [rGood, hv, Bool.true_and, rIdx_up])
          clear hv hv2 hcr he
          have S0 : wr.cell? (ad.add ((j + 1) * 2)) = some (.int .u32 (rd_T41 l (j + 1)).f0) ∧ wr.cell? ⟨(ad.add ((j + 1) * 2)).block, (ad.add ((j + 1) * 2)).off + 1, none⟩ = some (.string (rd_T41 l (j + 1)).f1) ∧ wr.cell? (ad.add (j * 2)) = some (.int .u32 (rd_T41 l j).f0) ∧ Below w.heap.size w wr ∧ w.heap.size ≤ wr.heap.size := ⟨e1, e2, e3, HB.out, hz⟩
          go_upto_region 4 with (fail)
          clear e1 e2 e3 e4
          go_cut [34] (fun s34 wx => s34 = .bool (decide ((rd_T41 l (j + 1)).f0 ≤ (rd_T41 l j).f0)) ∧ w.heap.size ≤ wx.heap.size ∧ Hid (Below w.heap.size w wx))
          case first =>
            refine wp_region_noPanic ?_
            refine wp_region_held_drew (S := (fun W => W.cell? (ad.add ((j + 1) * 2)) = some (.int .u32 (rd_T41 l (j + 1)).f0) ∧ W.cell? ⟨(ad.add ((j + 1) * 2)).block, (ad.add ((j + 1) * 2)).off + 1, none⟩ = some (.string (rd_T41 l (j + 1)).f1) ∧ W.cell? (ad.add (j * 2)) = some (.int .u32 (rd_T41 l j).f0) ∧ Below w.heap.size w W ∧ w.heap.size ≤ W.heap.size)) (by kernel_rfl) ?hSc (fun hHeld => ?goc)
            case hSc => first | exact S0 | assumption | exact keepH4 (by assumption) (by assumption) | exact keepH4 S0 (below_drew (Below.refl _ _))
            refine wpAnyH_take (i := 0) (oi := { dst := some 10, op := Go.Op.move (Go.Operand.tmp 0), type := 22, pos := "ref.go:39", after := #[], guard := none }) (v := ?_) rfl (by kernel_rfl) (by kernel_rfl) (by kernel_rfl) (fun _ _ _ h => h) (Or.inl ⟨by rfl, ?hy0c⟩) (by assumption) ?rest0c
            case hy0c => (intro w hSw; (try dsimp only at hSw); go_simp; first | (with_reducible rfl) | (rw [if_neg (by omega)]) | skip)
            simp only [Act.put, List.setIfInBounds_toArray, List.set_cons_zero, List.set_cons_succ]
            refine wpAnyH_take (i := 1) (oi := { dst := some 11, op := Go.Op.move (Go.Operand.tmp 3), type := 3, pos := "ref.go:39", after := #[], guard := none }) (v := ?_) rfl (by kernel_rfl) (by kernel_rfl) (by kernel_rfl) (fun _ _ _ h => h) (Or.inl ⟨by rfl, ?hy1c⟩) (by assumption) ?rest1c
            case hy1c => (intro w hSw; (try dsimp only at hSw); go_simp; first | (with_reducible rfl) | (rw [if_neg (by omega)]) | skip)
            simp only [Act.put, List.setIfInBounds_toArray, List.set_cons_zero, List.set_cons_succ]
            refine wpAnyH_take (i := 2) (oi := { dst := some 12, op := Go.Op.indexAddr 22 (Go.Operand.tmp 10) (Go.Operand.tmp 11), type := 0, pos := "ref.go:39", after := #[{ on := 0, ground := Go.Ground.data }, { on := 1, ground := Go.Ground.data }], guard := none }) (v := ?_) rfl (by kernel_rfl) (by kernel_rfl) (by kernel_rfl) (fun _ _ _ h => h) (Or.inl ⟨by rfl, ?hy2c⟩) (by assumption) ?rest2c
            case hy2c => (intro w hSw; (try dsimp only at hSw); go_simp; first | (with_reducible rfl) | (rw [if_neg (by omega)]) | skip)
            simp only [Act.put, List.setIfInBounds_toArray, List.set_cons_zero, List.set_cons_succ]
            refine wpAnyH_take (i := 3) (oi := { dst := some 13, op := Go.Op.fieldAddr 41 (Go.Operand.tmp 12) 1, type := 0, pos := "ref.go:39", after := #[{ on := 2, ground := Go.Ground.data }], guard := none }) (v := ?_) rfl (by kernel_rfl) (by kernel_rfl) (by kernel_rfl) (fun _ _ _ h => h) (Or.inl ⟨by rfl, ?hy3c⟩) (by assumption) ?rest3c
            case hy3c => (intro w hSw; (try dsimp only at hSw); go_simp; first | (with_reducible rfl) | (rw [if_neg (by omega)]) | skip)
            simp only [Act.put, List.setIfInBounds_toArray, List.set_cons_zero, List.set_cons_succ]
            refine wpAnyH_take (i := 4) (oi := { dst := some 14, op := Go.Op.load 9 (Go.Operand.tmp 13), type := 9, pos := "ref.go:39", after := #[{ on := 3, ground := Go.Ground.data }], guard := none }) (v := ?_) rfl (by kernel_rfl) (by kernel_rfl) (by kernel_rfl) (fun _ _ _ h => h) (Or.inl ⟨by rfl, ?hy4c⟩) (by assumption) ?rest4c
            case hy4c => (intro w hSw; (try dsimp only at hSw); go_simp; first | (with_reducible rfl) | (rw [if_neg (by omega)]) | skip)
            simp only [Act.put, List.setIfInBounds_toArray, List.set_cons_zero, List.set_cons_succ]
            refine wpAnyH_ready (rs := [5]) (by kernel_rfl) (by simp) ?_
            refine AllReadyH.cons (o := { dst := some 15, op := Go.Op.call { callee := Go.Callee.value (Go.Operand.func 14), args := #[Go.Operand.tmp 14], argTypes := #[9] }, type := 4, pos := "ref.go:39", after := #[{ on := 4, ground := Go.Ground.data }], guard := none }) rfl (fun K hK => ?_) AllReadyH.nil
            go_simp
            go_at_call 14; (with_reducible refine (HT.out _).mono ?_); rintro e w' ⟨rfl, hb1⟩
            refine hK.out _ _ ?_ (fun hHeld => ?_)
            · (try dsimp only); first | exact S0 | assumption | exact keepH4 (by assumption) (by assumption) | exact keepH4 S0 (below_drew (Below.refl _ _))
            clear hK K
            try simp only [Act.put, List.setIfInBounds_toArray, List.set_cons_zero, List.set_cons_succ]
            refine wpAnyH_take (i := 6) (oi := { dst := some 16, op := Go.Op.unOp Go.UnOp.not 4 (Go.Operand.tmp 15), type := 4, pos := "ref.go:39", after := #[{ on := 5, ground := Go.Ground.data }], guard := none }) (v := ?_) rfl (by kernel_rfl) (by kernel_rfl) (by kernel_rfl) (fun _ _ _ h => h) (Or.inl ⟨by rfl, ?hy6c⟩) (by assumption) ?rest6c
            case hy6c => (intro w hSw; (try dsimp only at hSw); go_simp; first | (with_reducible rfl) | (rw [if_neg (by omega)]) | skip)
            simp only [Act.put, List.setIfInBounds_toArray, List.set_cons_zero, List.set_cons_succ]
            refine wpAnyH_take (i := 7) (oi := { dst := some 17, op := Go.Op.move (Go.Operand.tmp 16), type := 4, pos := "ref.go:39", after := #[{ on := 6, ground := Go.Ground.data }, { on := 5, ground := Go.Ground.chain }], guard := none }) (v := ?_) rfl (by kernel_rfl) (by kernel_rfl) (by kernel_rfl) (fun _ _ _ h => h) (Or.inl ⟨by rfl, ?hy7c⟩) (by assumption) ?rest7c
            case hy7c => (intro w hSw; (try dsimp only at hSw); go_simp; first | (with_reducible rfl) | (rw [if_neg (by omega)]) | skip)
            simp only [Act.put, List.setIfInBounds_toArray, List.set_cons_zero, List.set_cons_succ]
            refine wpAnyH_take (i := 8) (oi := { dst := some 18, op := Go.Op.move (Go.Operand.tmp 3), type := 3, pos := "ref.go:39", after := #[{ on := 7, ground := Go.Ground.guard }], guard := some (7, false) }) (v := ?_) rfl (by kernel_rfl) (by kernel_rfl) (by kernel_rfl) (fun _ _ _ h => h) (Or.inl ⟨by rfl, ?hy8c⟩) (by assumption) ?rest8c
            case hy8c => (intro w hSw; (try dsimp only at hSw); go_simp; first | (with_reducible rfl) | (rw [if_neg (by omega)]) | skip)
            simp only [Act.put, List.setIfInBounds_toArray, List.set_cons_zero, List.set_cons_succ]
            refine wpAnyH_take (i := 9) (oi := { dst := some 19, op := Go.Op.binOp Go.BinOp.gtr 3 (Go.Operand.tmp 18) (Go.Operand.const (Go.Value.int Go.IntKind.i64 0)) 3, type := 4, pos := "ref.go:39", after := #[{ on := 8, ground := Go.Ground.data }, { on := 7, ground := Go.Ground.guard }], guard := some (7, false) }) (v := ?_) rfl (by kernel_rfl) (by kernel_rfl) (by kernel_rfl) (fun _ _ _ h => h) (Or.inl ⟨by rfl, ?hy9c⟩) (by assumption) ?rest9c
            case hy9c => (intro w hSw; (try dsimp only at hSw); go_simp; first | (with_reducible rfl) | (rw [if_neg (by omega)]) | skip)
            simp only [Act.put, List.setIfInBounds_toArray, List.set_cons_zero, List.set_cons_succ]
            refine wpAnyH_take (i := 10) (oi := { dst := some 20, op := Go.Op.move (Go.Operand.tmp 19), type := 4, pos := "ref.go:39", after := #[{ on := 9, ground := Go.Ground.data }, { on := 7, ground := Go.Ground.chain }, { on := 7, ground := Go.Ground.guard }], guard := some (7, false) }) (v := ?_) rfl (by kernel_rfl) (by kernel_rfl) (by kernel_rfl) (fun _ _ _ h => h) (Or.inl ⟨by rfl, ?hy10c⟩) (by assumption) ?rest10c
            case hy10c => (intro w hSw; (try dsimp only at hSw); go_simp; first | (with_reducible rfl) | (rw [if_neg (by omega)]) | skip)
            simp only [Act.put, List.setIfInBounds_toArray, List.set_cons_zero, List.set_cons_succ]
            refine wpAnyH_take (i := 11) (oi := { dst := some 21, op := Go.Op.move (Go.Operand.tmp 0), type := 22, pos := "ref.go:39", after := #[{ on := 10, ground := Go.Ground.guard }], guard := some (10, true) }) (v := ?_) rfl (by kernel_rfl) (by kernel_rfl) (by kernel_rfl) (fun _ _ _ h => h) (Or.inl ⟨by rfl, ?hy11c⟩) (by assumption) ?rest11c
            case hy11c => (intro w hSw; (try dsimp only at hSw); go_simp; first | (with_reducible rfl) | (rw [if_neg (by omega)]) | skip)
            simp only [Act.put, List.setIfInBounds_toArray, List.set_cons_zero, List.set_cons_succ]
            refine wpAnyH_take (i := 12) (oi := { dst := some 22, op := Go.Op.move (Go.Operand.tmp 3), type := 3, pos := "ref.go:39", after := #[{ on := 10, ground := Go.Ground.guard }], guard := some (10, true) }) (v := ?_) rfl (by kernel_rfl) (by kernel_rfl) (by kernel_rfl) (fun _ _ _ h => h) (Or.inl ⟨by rfl, ?hy12c⟩) (by assumption) ?rest12c
            case hy12c => (intro w hSw; (try dsimp only at hSw); go_simp; first | (with_reducible rfl) | (rw [if_neg (by omega)]) | skip)
            simp only [Act.put, List.setIfInBounds_toArray, List.set_cons_zero, List.set_cons_succ]
            refine wpAnyH_take (i := 13) (oi := { dst := some 23, op := Go.Op.indexAddr 22 (Go.Operand.tmp 21) (Go.Operand.tmp 22), type := 0, pos := "ref.go:39", after := #[{ on := 11, ground := Go.Ground.data }, { on := 12, ground := Go.Ground.data }, { on := 10, ground := Go.Ground.guard }], guard := some (10, true) }) (v := ?_) rfl (by kernel_rfl) (by kernel_rfl) (by kernel_rfl) (fun _ _ _ h => h) (Or.inl ⟨by rfl, ?hy13c⟩) (by assumption) ?rest13c
            case hy13c => (intro w hSw; (try dsimp only at hSw); go_simp; first | (with_reducible rfl) | (rw [if_neg (by omega)]) | skip)
            simp only [Act.put, List.setIfInBounds_toArray, List.set_cons_zero, List.set_cons_succ]
            refine wpAnyH_take (i := 14) (oi := { dst := some 24, op := Go.Op.fieldAddr 41 (Go.Operand.tmp 23) 0, type := 0, pos := "ref.go:39", after := #[{ on := 13, ground := Go.Ground.data }, { on := 10, ground := Go.Ground.guard }], guard := some (10, true) }) (v := ?_) rfl (by kernel_rfl) (by kernel_rfl) (by kernel_rfl) (fun _ _ _ h => h) (Or.inl ⟨by rfl, ?hy14c⟩) (by assumption) ?rest14c
            case hy14c => (intro w hSw; (try dsimp only at hSw); go_simp; first | (with_reducible rfl) | (rw [if_neg (by omega)]) | skip)
            simp only [Act.put, List.setIfInBounds_toArray, List.set_cons_zero, List.set_cons_succ]
            refine wpAnyH_take (i := 15) (oi := { dst := some 25, op := Go.Op.load 39 (Go.Operand.tmp 24), type := 39, pos := "ref.go:39", after := #[{ on := 14, ground := Go.Ground.data }, { on := 10, ground := Go.Ground.guard }], guard := some (10, true) }) (v := ?_) rfl (by kernel_rfl) (by kernel_rfl) (by kernel_rfl) (fun _ _ _ h => h) (Or.inl ⟨by rfl, ?hy15c⟩) (by assumption) ?rest15c
            case hy15c => (intro w hSw; (try dsimp only at hSw); go_simp; first | (with_reducible rfl) | (rw [if_neg (by omega)]) | skip)
            simp only [Act.put, List.setIfInBounds_toArray, List.set_cons_zero, List.set_cons_succ]
            refine wpAnyH_take (i := 16) (oi := { dst := some 26, op := Go.Op.move (Go.Operand.tmp 0), type := 22, pos := "ref.go:39", after := #[{ on := 10, ground := Go.Ground.guard }], guard := some (10, true) }) (v := ?_) rfl (by kernel_rfl) (by kernel_rfl) (by kernel_rfl) (fun _ _ _ h => h) (Or.inl ⟨by rfl, ?hy16c⟩) (by assumption) ?rest16c
            case hy16c => (intro w hSw; (try dsimp only at hSw); go_simp; first | (with_reducible rfl) | (rw [if_neg (by omega)]) | skip)
            simp only [Act.put, List.setIfInBounds_toArray, List.set_cons_zero, List.set_cons_succ]
            refine wpAnyH_take (i := 17) (oi := { dst := some 27, op := Go.Op.move (Go.Operand.tmp 3), type := 3, pos := "ref.go:39", after := #[{ on := 10, ground := Go.Ground.guard }], guard := some (10, true) }) (v := ?_) rfl (by kernel_rfl) (by kernel_rfl) (by kernel_rfl) (fun _ _ _ h => h) (Or.inl ⟨by rfl, ?hy17c⟩) (by assumption) ?rest17c
            case hy17c => (intro w hSw; (try dsimp only at hSw); go_simp; first | (with_reducible rfl) | (rw [if_neg (by omega)]) | skip)
            simp only [Act.put, List.setIfInBounds_toArray, List.set_cons_zero, List.set_cons_succ]
            refine wpAnyH_take (i := 18) (oi := { dst := some 28, op := Go.Op.binOp Go.BinOp.sub 3 (Go.Operand.tmp 27) (Go.Operand.const (Go.Value.int Go.IntKind.i64 1)) 3, type := 3, pos := "ref.go:39", after := #[{ on := 17, ground := Go.Ground.data }, { on := 10, ground := Go.Ground.guard }], guard := some (10, true) }) (v := ?_) rfl (by kernel_rfl) (by kernel_rfl) (by kernel_rfl) (fun _ _ _ h => h) (Or.inl ⟨by rfl, ?hy18c⟩) (by assumption) ?rest18c
            case hy18c => (intro w hSw; (try dsimp only at hSw); go_simp; first | (with_reducible rfl) | (rw [if_neg (by omega)]) | skip)
            simp only [Act.put, List.setIfInBounds_toArray, List.set_cons_zero, List.set_cons_succ]
            refine wpAnyH_take (i := 19) (oi := { dst := some 29, op := Go.Op.indexAddr 22 (Go.Operand.tmp 26) (Go.Operand.tmp 28), type := 0, pos := "ref.go:39", after := #[{ on := 16, ground := Go.Ground.data }, { on := 18, ground := Go.Ground.data }, { on := 10, ground := Go.Ground.guard }], guard := some (10, true) }) (v := ?_) rfl (by kernel_rfl) (by kernel_rfl) (by kernel_rfl) (fun _ _ _ h => h) (Or.inl ⟨by rfl, ?hy19c⟩) (by assumption) ?rest19c
            case hy19c => (intro w hSw; (try dsimp only at hSw); go_simp; first | (with_reducible rfl) | (rw [if_neg (by omega)]) | skip)
            simp only [Act.put, List.setIfInBounds_toArray, List.set_cons_zero, List.set_cons_succ]
            refine wpAnyH_take (i := 20) (oi := { dst := some 30, op := Go.Op.fieldAddr 41 (Go.Operand.tmp 29) 0, type := 0, pos := "ref.go:39", after := #[{ on := 19, ground := Go.Ground.data }, { on := 10, ground := Go.Ground.guard }], guard := some (10, true) }) (v := ?_) rfl (by kernel_rfl) (by kernel_rfl) (by kernel_rfl) (fun _ _ _ h => h) (Or.inl ⟨by rfl, ?hy20c⟩) (by assumption) ?rest20c
            case hy20c => (intro w hSw; (try dsimp only at hSw); go_simp; first | (with_reducible rfl) | (rw [if_neg (by omega)]) | skip)
            simp only [Act.put, List.setIfInBounds_toArray, List.set_cons_zero, List.set_cons_succ]
            refine wpAnyH_take (i := 21) (oi := { dst := some 31, op := Go.Op.load 39 (Go.Operand.tmp 30), type := 39, pos := "ref.go:39", after := #[{ on := 20, ground := Go.Ground.data }, { on := 10, ground := Go.Ground.guard }], guard := some (10, true) }) (v := ?_) rfl (by kernel_rfl) (by kernel_rfl) (by kernel_rfl) (fun _ _ _ h => h) (Or.inl ⟨by rfl, ?hy21c⟩) (by assumption) ?rest21c
            case hy21c => (intro w hSw; (try dsimp only at hSw); go_simp; first | (with_reducible rfl) | (rw [if_neg (by omega)]) | skip)
            simp only [Act.put, List.setIfInBounds_toArray, List.set_cons_zero, List.set_cons_succ]
            refine wpAnyH_take (i := 22) (oi := { dst := some 32, op := Go.Op.binOp Go.BinOp.leq 39 (Go.Operand.tmp 25) (Go.Operand.tmp 31) 39, type := 4, pos := "ref.go:39", after := #[{ on := 15, ground := Go.Ground.data }, { on := 21, ground := Go.Ground.data }, { on := 10, ground := Go.Ground.guard }], guard := some (10, true) }) (v := ?_) rfl (by kernel_rfl) (by kernel_rfl) (by kernel_rfl) (fun _ _ _ h => h) (Or.inl ⟨by rfl, ?hy22c⟩) (by assumption) ?rest22c
            case hy22c => (intro w hSw; (try dsimp only at hSw); go_simp; first | (with_reducible rfl) | (rw [if_neg (by omega)]) | skip)
            simp only [Act.put, List.setIfInBounds_toArray, List.set_cons_zero, List.set_cons_succ]
            refine wpAnyH_take (i := 23) (oi := { dst := some 33, op := Go.Op.pick (Go.Operand.tmp 20) (Go.Operand.tmp 32) (Go.Operand.const (Go.Value.bool false)), type := 4, pos := "ref.go:39", after := #[{ on := 10, ground := Go.Ground.data }, { on := 22, ground := Go.Ground.data }, { on := 7, ground := Go.Ground.guard }], guard := some (7, false) }) (v := ?_) rfl (by kernel_rfl) (by kernel_rfl) (by kernel_rfl) (fun _ _ _ h => h) (Or.inl ⟨by rfl, ?hy23c⟩) (by assumption) ?rest23c
            case hy23c => (intro w hSw; (try dsimp only at hSw); go_simp; first | (with_reducible rfl) | (rw [if_neg (by omega)]) | skip)
            simp only [Act.put, List.setIfInBounds_toArray, List.set_cons_zero, List.set_cons_succ]
            refine wpAnyH_take (i := 24) (oi := { dst := some 34, op := Go.Op.pick (Go.Operand.tmp 17) (Go.Operand.const (Go.Value.bool true)) (Go.Operand.tmp 33), type := 4, pos := "ref.go:39", after := #[{ on := 7, ground := Go.Ground.data }, { on := 23, ground := Go.Ground.data }], guard := none }) (v := ?_) rfl (by kernel_rfl) (by kernel_rfl) (by kernel_rfl) (fun _ _ _ h => h) (Or.inl ⟨by rfl, ?hy24c⟩) (by assumption) ?rest24c
            case hy24c => (intro w hSw; (try dsimp only at hSw); go_simp; first | (with_reducible rfl) | (rw [if_neg (by omega)]) | skip)
            simp only [Act.put, List.setIfInBounds_toArray, List.set_cons_zero, List.set_cons_succ]
            refine wpAnyH_done (by kernel_rfl) ?_ _
            refine NoPanic.normal ?_
            go_wp2_with fail
            go_meet
            exact ⟨rfl, hHeld.2.2.2.2, hid hHeld.2.2.2.1⟩
          case rest =>
            obtain ⟨rfl, hsx, HX⟩ := hcut
            by_cases hup : (rd_T41 l (j + 1)).f0 ≤ (rd_T41 l j).f0
            · have HP := hid hup
              go_wp2
              go_ret
              refine ⟨ret_bool ?_, HX.out⟩
              exact (allB_not hlt (by rw [HG.out]; exact decide_eq_false (by have := HP.out; omega))).symm
            · have HP := hid hup
              have hup2 : (rd_T41 l j).f0 < (rd_T41 l (j + 1)).f0 := by omega
              go_wp2
              go_roundw
              case rel => exact ⟨j + 2, by go_num, by omega, hid (by rw [allB, HA.out, Bool.true_and, HG.out]; exact decide_eq_true (by have := HP.out; omega)), hsx, HX⟩
              case measure => simp [intOf]; omega
    · obtain rfl : i = l.length := by omega
      go_wp2
      go_ret
      exact ⟨ret_bool HA.out.symm, HB.out⟩
end Go.Proofs.Ytiohiiekaofkbaa
