/- May names be, by the reference: dobbyref14.Right. -/
import Derived.Test.YtiohiiekaofkbaaR4
namespace Go.Proofs.Ytiohiiekaofkbaa
set_option linter.unusedVariables false
set_option linter.unusedSimpArgs false
open Go.RowKit Go.Proofs.Ytiohiiekaofkbaa.PNamesPuts Go.Proofs.YtiohiiekaofkbaaW.PrintWords

def rlIdx (l : List S43) (i : Nat) : Int := (rd_T43 l i).f0
theorem rlIdx_up (l : List S43) (j : Nat) : upB (rlIdx l) (j + 1) = decide ((rd_T43 l (j : Int)).f0 < (rd_T43 l ((j : Int) + 1)).f0) := by unfold upB; rw [show decide (j + 1 = 0) = false from by simp, Bool.false_or]; rfl
def rlGood (l : List S43) (i : Nat) : Bool := rnamed (rd_T43 l i).f1 && upB (rlIdx l) i
def rrightB (x : rNs) : Bool := thereB x.hm x.hf x.hl x.md x.fs.length x.ls.length && vld x.md && rnamed x.fs && allB (rlGood x.ls) x.ls.length

theorem three (b : Bool) (n : Nat) : b = true ∨ (b = false ∧ n = 0) ∨ (b = false ∧ ∃ k, n = k + 1) := by
  cases b
  · rcases n with _ | n
    · exact .inr (.inl ⟨rfl, rfl⟩)
    · exact .inr (.inr ⟨rfl, n, rfl⟩)
  · exact .inl rfl
theorem keepH5 {p1 p2 p3 p4 : Addr} {a b c d : Value} {w W W' : World} {B : Nat} (h : W.cell? p1 = some a ∧ W.cell? p2 = some b ∧ W.cell? p3 = some c ∧ W.cell? p4 = some d ∧ Below B w W ∧ B ≤ W.heap.size) (hb : Below W.heap.size W W') : W'.cell? p1 = some a ∧ W'.cell? p2 = some b ∧ W'.cell? p3 = some c ∧ W'.cell? p4 = some d ∧ Below B w W' ∧ B ≤ W'.heap.size :=
  ⟨pw_cell_below hb h.1, pw_cell_below hb h.2.1, pw_cell_below hb h.2.2.1, pw_cell_below hb h.2.2.2.1, h.2.2.2.2.1.trans (hb.mono h.2.2.2.2.2), Nat.le_trans h.2.2.2.2.2 hb.size⟩

set_option maxRecDepth 100000 in
set_option maxHeartbeats 8000000 in
theorem rright_walk (x : rNs) (A : Option Addr) (c : Nat) (B : Option Addr) (d : Nat) (w : World) (hx : x.at A c B d w) (hs : x.small) :
    Calls Try.prog 6 #[.agg #[.bool x.hm, .bool x.hf, .bool x.hl, .string x.md, .slice A x.fs.length c, .slice B x.ls.length d]] w fun e w' => e = .returned (.bool (rrightB x)) ∧ Below w.heap.size w w' := by
  have hu := Try.underlying25
  have hu2 := Try.underlying43
  have HN := hid (fun W (h : Below w.heap.size w W) => rlist_walk A c x.fs W (hx.below h).1 hs.2.1 hs.2.2.2.1)
  have HV := hid (fun W => rtext_walk x.md W (by have := hs.1; omega))
  have XL := hid hx.2.2.1
  have UL := hid hs.2.2.2.2
  have h1 := hs.2.1
  have h2 := hs.2.2.1
  clear hx hs
  obtain ⟨b1, b2, b3, m, f, l⟩ := x
  dsimp only at HN HV h1 h2 XL UL ⊢
  have HS : Hid (rrightB ⟨b1, b2, b3, m, f, l⟩ = (thereB b1 b2 b3 m f.length l.length && vld m && rnamed f && allB (rlGood l) l.length)) := rfl
  obtain ⟨nf, hnf⟩ : ∃ n, f.length = n := ⟨_, rfl⟩
  obtain ⟨nl, hnl⟩ : ∃ n, l.length = n := ⟨_, rfl⟩
  rw [hnf] at HN HS h1 ⊢
  rw [hnl] at HS h2 XL ⊢
  have HNL := hid hnl
  obtain ⟨bv, hbv⟩ : ∃ b, vld m = b := ⟨_, rfl⟩
  obtain ⟨bn, hbn⟩ : ∃ b, rnamed f = b := ⟨_, rfl⟩
  rw [hbv] at HV HS
  rw [hbn] at HN HS
  clear hbv hbn hnf hnl
  go_enter Try.func6, Try.ntmps6
  go_upto_region 1 with (fail)
  obtain ⟨w0, hw0⟩ : ∃ w0, w0 = w.alloc (.cells #[.bool b1, .bool b2, .bool b3, .string m, .slice A nf c, .slice B nl d] 25) := ⟨_, rfl⟩
  have KN := hid (show rBoxN w.heap.size b1 b2 b3 m (.slice A nf c) (.slice B nl d) w0 by rw [hw0]; exact rBoxN.new _ _ _ _ _ _ _ _)
  have KB := hid (show Below w.heap.size w w0 by rw [hw0]; exact below_alloc (Below.refl _ _) _)
  have kz : w.heap.size < w0.heap.size := by rw [hw0]; simp
  rw [← hw0]
  clear hw0
  go_cut [45] (fun s45 wx => s45 = .bool (!(thereB b1 b2 b3 m nf nl && bv && bn)) ∧ Hid (Below w0.heap.size w0 wx))
  case first =>
    have HT : Hid (thereB b1 b2 b3 m nf nl = ((b1 || m.toList.isEmpty) && (b2 || decide (nf = 0)) && (b3 || decide (nl = 0)))) := rfl
    obtain ⟨c0, c1, c2, c3, c4, c5⟩ := KN.out
    clear HS XL UL KN HNL
    have HV0 := hid (HV.out w0)
    have HN0 := hid (fun W (h : Below w0.heap.size w0 W) => HN.out W (KB.out.trans (h.mono KB.out.size)))
    clear HV HN
    rcases three b2 nf with rfl | ⟨rfl, rfl⟩ | ⟨rfl, nf, rfl⟩ <;> rcases three b3 nl with rfl | ⟨rfl, rfl⟩ | ⟨rfl, nl, rfl⟩ <;> cases b1 <;>
      (go_wp2_with (first | (go_at_call 14; (with_reducible refine HV0.out.mono ?_); rintro e w2 ⟨rfl, hb1⟩; have q4 := pw_cell_below hb1 c4) | (go_at_call 15; (with_reducible refine (HN0.out _ hb1).mono ?_); rintro e w3 ⟨rfl, hb2⟩))
       all_goals (go_meet; refine ⟨?_, ?_⟩; (· rw [HT.out]; first | (simp [*]; done) | (simp [*]; omega)); (· first | exact hid (hb1.trans (hb2.mono hb1.size)) | exact hid hb1 | exact Below.refl _ _)))
  case rest =>
    obtain ⟨rfl, HX⟩ := hcut
    have KN2 := hid (KN.out.below HX.out)
    have KB2 := hid (KB.out.trans (HX.out.mono KB.out.size))
    have kz2 : w.heap.size < wc.heap.size := Nat.lt_of_lt_of_le kz HX.out.size
    clear KN KB kz HX HV HN
    rcases hq : (thereB b1 b2 b3 m nf nl && bv && bn) with _ | _
    · rw [hq, Bool.false_and] at HS
      clear hq
      go_wp2
      go_ret
      exact ⟨ret_bool HS.out.symm, KB2.out⟩
    · rw [hq, Bool.true_and] at HS
      clear hq
      have k5 := KN2.out.2.2.2.2.2
      go_upto_region 4 with (fail)
      go_loopw [3] (fun v3 wr => ∃ i : Nat, v3 = .int .i64 i ∧ i ≤ nl ∧ Hid (allB (rlGood l) i = true) ∧ Hid (rBoxN w.heap.size b1 b2 b3 m (.slice A nf c) (.slice B nl d) wr) ∧ w.heap.size < wr.heap.size ∧ Hid (Below w.heap.size w wr)) (fun v3 _ => nl - (intOf v3).toNat)
      case atStart => exact ⟨0, by go_num, by omega, hid rfl, KN2, kz2, KB2⟩
      case round =>
        obtain ⟨i, rfl, hi1, HA, KN, hz, HB⟩ := hrel
        clear KN2 KB2 kz2 k5
        have k5 := KN.out.2.2.2.2.2
        by_cases hlt : i < nl
        · have hcr := Kd.C_below XL.out HB.out
          have hll : i < l.length := by rw [HNL.out]; exact hlt
          obtain ⟨ad, A1, c1, rfl, e1, e2, l1, g1⟩ := at_T43 hcr (i : Int) (by omega) (by omega)
          rw [Int.toNat_natCast] at e1 e2
          have hgi := rd_rLocal l i hll
          obtain ⟨u2, u3⟩ : rU32s (rd_T43 l i).f1 ∧ (rd_T43 l i).f1.length ≤ 1000000 := by rw [hgi]; exact (UL.out _ (List.getElem_mem hll)).2.2
          have HT := hid (fun W (h : Below wr.heap.size wr W) => rlist_walk A1 c1 (rd_T43 l i).f1 W (Kd.C_below g1 h) u3 u2)
          have hi3 : (i : Int) < (nl : Int) := by omega
          clear hgi u2 g1
          rcases hv : rnamed (rd_T43 l i).f1 with _ | _
          · rw [hv] at HT
            have HV := hid (show allB (rlGood l) nl = false from allB_not hlt (by rw [rlGood, hv]; rfl))
            clear hv hcr
            have S0 : wr.cell? ⟨w.heap.size, 5, none⟩ = some (.slice (some ad) nl d) ∧ wr.cell? (ad.add (i * 2)) = some (.int .u32 (rd_T43 l i).f0) ∧ wr.cell? ⟨(ad.add (i * 2)).block, (ad.add (i * 2)).off + 1, none⟩ = some (.slice A1 (rd_T43 l i).f1.length c1) ∧ Below wr.heap.size wr wr ∧ wr.heap.size ≤ wr.heap.size := ⟨k5, e1, e2, Below.refl _ _, Nat.le_refl _⟩
            go_upto_region 6 with (fail)
            clear k5 e1 e2
            go_cut [80] (fun s80 wx => s80 = .bool true ∧ Hid (rBoxN w.heap.size b1 b2 b3 m (.slice A nf c) (.slice (some ad) nl d) wx) ∧ w.heap.size < wx.heap.size ∧ Hid (Below w.heap.size w wx))
            case first =>
              refine wp_region_noPanic ?_
              refine wp_region_held_drew (S := (fun W => W.cell? ⟨w.heap.size, 5, none⟩ = some (.slice (some ad) nl d) ∧ W.cell? (ad.add (i * 2)) = some (.int .u32 (rd_T43 l i).f0) ∧ W.cell? ⟨(ad.add (i * 2)).block, (ad.add (i * 2)).off + 1, none⟩ = some (.slice A1 (rd_T43 l i).f1.length c1) ∧ Below wr.heap.size wr W ∧ wr.heap.size ≤ W.heap.size)) (by kernel_rfl) ?hSa (fun hHeld => ?goa)
              case hSa => first | exact S0 | assumption | exact keepH4 (by assumption) (by assumption) | exact keepH4 S0 (below_drew (Below.refl _ _))
              refine wpAnyH_take (i := 0) (oi := { dst := some 53, op := Go.Op.fieldAddr 25 (Go.Operand.tmp 1) 5, type := 0, pos := "ref.go:52", after := #[], guard := none }) (v := ?_) rfl (by kernel_rfl) (by kernel_rfl) (by kernel_rfl) (fun _ _ _ h => h) (Or.inl ⟨by rfl, ?hy0a⟩) (by assumption) ?rest0a
              case hy0a => (intro w hSw; (try dsimp only at hSw); go_simp; first | (with_reducible rfl) | (rw [if_neg (by omega)]) | skip)
              simp only [Act.put, List.setIfInBounds_toArray, List.set_cons_zero, List.set_cons_succ]
              refine wpAnyH_take (i := 1) (oi := { dst := some 54, op := Go.Op.load 23 (Go.Operand.tmp 53), type := 23, pos := "ref.go:52", after := #[{ on := 0, ground := Go.Ground.data }], guard := none }) (v := ?_) rfl (by kernel_rfl) (by kernel_rfl) (by kernel_rfl) (fun _ _ _ h => h) (Or.inl ⟨by rfl, ?hy1a⟩) (by assumption) ?rest1a
              case hy1a => (intro w hSw; (try dsimp only at hSw); go_simp; first | (with_reducible rfl) | (rw [if_neg (by omega)]) | skip)
              simp only [Act.put, List.setIfInBounds_toArray, List.set_cons_zero, List.set_cons_succ]
              refine wpAnyH_take (i := 2) (oi := { dst := some 55, op := Go.Op.move (Go.Operand.tmp 3), type := 3, pos := "ref.go:52", after := #[], guard := none }) (v := ?_) rfl (by kernel_rfl) (by kernel_rfl) (by kernel_rfl) (fun _ _ _ h => h) (Or.inl ⟨by rfl, ?hy2a⟩) (by assumption) ?rest2a
              case hy2a => (intro w hSw; (try dsimp only at hSw); go_simp; first | (with_reducible rfl) | (rw [if_neg (by omega)]) | skip)
              simp only [Act.put, List.setIfInBounds_toArray, List.set_cons_zero, List.set_cons_succ]
              refine wpAnyH_take (i := 3) (oi := { dst := some 56, op := Go.Op.indexAddr 23 (Go.Operand.tmp 54) (Go.Operand.tmp 55), type := 0, pos := "ref.go:52", after := #[{ on := 1, ground := Go.Ground.data }, { on := 2, ground := Go.Ground.data }], guard := none }) (v := ?_) rfl (by kernel_rfl) (by kernel_rfl) (by kernel_rfl) (fun _ _ _ h => h) (Or.inl ⟨by rfl, ?hy3a⟩) (by assumption) ?rest3a
              case hy3a => (intro w hSw; (try dsimp only at hSw); go_simp; first | (with_reducible rfl) | (rw [if_neg (by omega)]) | skip)
              simp only [Act.put, List.setIfInBounds_toArray, List.set_cons_zero, List.set_cons_succ]
              refine wpAnyH_take (i := 4) (oi := { dst := some 57, op := Go.Op.fieldAddr 43 (Go.Operand.tmp 56) 1, type := 0, pos := "ref.go:52", after := #[{ on := 3, ground := Go.Ground.data }], guard := none }) (v := ?_) rfl (by kernel_rfl) (by kernel_rfl) (by kernel_rfl) (fun _ _ _ h => h) (Or.inl ⟨by rfl, ?hy4a⟩) (by assumption) ?rest4a
              case hy4a => (intro w hSw; (try dsimp only at hSw); go_simp; first | (with_reducible rfl) | (rw [if_neg (by omega)]) | skip)
              simp only [Act.put, List.setIfInBounds_toArray, List.set_cons_zero, List.set_cons_succ]
              refine wpAnyH_take (i := 5) (oi := { dst := some 58, op := Go.Op.load 22 (Go.Operand.tmp 57), type := 22, pos := "ref.go:52", after := #[{ on := 4, ground := Go.Ground.data }], guard := none }) (v := ?_) rfl (by kernel_rfl) (by kernel_rfl) (by kernel_rfl) (fun _ _ _ h => h) (Or.inl ⟨by rfl, ?hy5a⟩) (by assumption) ?rest5a
              case hy5a => (intro w hSw; (try dsimp only at hSw); go_simp; first | (with_reducible rfl) | (rw [if_neg (by omega)]) | skip)
              simp only [Act.put, List.setIfInBounds_toArray, List.set_cons_zero, List.set_cons_succ]
              refine wpAnyH_ready (rs := [6]) (by kernel_rfl) (by simp) ?_
              refine AllReadyH.cons (o := { dst := some 59, op := Go.Op.call { callee := Go.Callee.value (Go.Operand.func 15), args := #[Go.Operand.tmp 58], argTypes := #[22] }, type := 4, pos := "ref.go:52", after := #[{ on := 5, ground := Go.Ground.data }], guard := none }) rfl (fun K hK => ?_) AllReadyH.nil
              go_simp
              go_at_call 15; (with_reducible refine (HT.out _ (‹_ ∧ _ ∧ _ ∧ Below wr.heap.size wr _ ∧ _›).2.2.2.1).mono ?_); rintro e w' ⟨rfl, hb1⟩
              refine hK.out _ _ ?_ (fun hHeld => ?_)
              · (try dsimp only); first | exact S0 | assumption | exact keepH4 (by assumption) (by assumption) | exact keepH4 S0 (below_drew (Below.refl _ _))
              clear hK K
              try simp only [Act.put, List.setIfInBounds_toArray, List.set_cons_zero, List.set_cons_succ]
              refine wpAnyH_take (i := 7) (oi := { dst := some 60, op := Go.Op.unOp Go.UnOp.not 4 (Go.Operand.tmp 59), type := 4, pos := "ref.go:52", after := #[{ on := 6, ground := Go.Ground.data }], guard := none }) (v := ?_) rfl (by kernel_rfl) (by kernel_rfl) (by kernel_rfl) (fun _ _ _ h => h) (Or.inl ⟨by rfl, ?hy7a⟩) (by assumption) ?rest7a
              case hy7a => (intro w hSw; (try dsimp only at hSw); go_simp; first | (with_reducible rfl) | (rw [if_neg (by omega)]) | skip)
              simp only [Act.put, List.setIfInBounds_toArray, List.set_cons_zero, List.set_cons_succ]
              refine wpAnyH_take (i := 8) (oi := { dst := some 61, op := Go.Op.move (Go.Operand.tmp 60), type := 4, pos := "ref.go:52", after := #[{ on := 7, ground := Go.Ground.data }, { on := 6, ground := Go.Ground.chain }], guard := none }) (v := ?_) rfl (by kernel_rfl) (by kernel_rfl) (by kernel_rfl) (fun _ _ _ h => h) (Or.inl ⟨by rfl, ?hy8a⟩) (by assumption) ?rest8a
              case hy8a => (intro w hSw; (try dsimp only at hSw); go_simp; first | (with_reducible rfl) | (rw [if_neg (by omega)]) | skip)
              simp only [Act.put, List.setIfInBounds_toArray, List.set_cons_zero, List.set_cons_succ]
              refine wpAnyH_take (i := 9) (oi := { dst := some 62, op := Go.Op.move (Go.Operand.tmp 3), type := 3, pos := "ref.go:52", after := #[{ on := 8, ground := Go.Ground.guard }], guard := some (8, false) }) (v := undef) rfl (by kernel_rfl) (by kernel_rfl) (by kernel_rfl) (fun _ _ _ h => h) (Or.inr ⟨by rfl, rfl⟩) (by assumption) ?_
              simp only [Act.put, List.setIfInBounds_toArray, List.set_cons_zero, List.set_cons_succ]
              refine wpAnyH_take (i := 10) (oi := { dst := some 63, op := Go.Op.binOp Go.BinOp.gtr 3 (Go.Operand.tmp 62) (Go.Operand.const (Go.Value.int Go.IntKind.i64 0)) 3, type := 4, pos := "ref.go:52", after := #[{ on := 9, ground := Go.Ground.data }, { on := 8, ground := Go.Ground.guard }], guard := some (8, false) }) (v := undef) rfl (by kernel_rfl) (by kernel_rfl) (by kernel_rfl) (fun _ _ _ h => h) (Or.inr ⟨by rfl, rfl⟩) (by assumption) ?_
              simp only [Act.put, List.setIfInBounds_toArray, List.set_cons_zero, List.set_cons_succ]
              refine wpAnyH_take (i := 11) (oi := { dst := some 64, op := Go.Op.move (Go.Operand.tmp 63), type := 4, pos := "ref.go:52", after := #[{ on := 10, ground := Go.Ground.data }, { on := 8, ground := Go.Ground.chain }, { on := 8, ground := Go.Ground.guard }], guard := some (8, false) }) (v := undef) rfl (by kernel_rfl) (by kernel_rfl) (by kernel_rfl) (fun _ _ _ h => h) (Or.inr ⟨by rfl, rfl⟩) (by assumption) ?_
              simp only [Act.put, List.setIfInBounds_toArray, List.set_cons_zero, List.set_cons_succ]
              refine wpAnyH_take (i := 12) (oi := { dst := some 65, op := Go.Op.fieldAddr 25 (Go.Operand.tmp 1) 5, type := 0, pos := "ref.go:52", after := #[{ on := 11, ground := Go.Ground.guard }], guard := some (11, true) }) (v := undef) rfl (by kernel_rfl) (by kernel_rfl) (by kernel_rfl) (fun _ _ _ h => h) (Or.inr ⟨by rfl, rfl⟩) (by assumption) ?_
              simp only [Act.put, List.setIfInBounds_toArray, List.set_cons_zero, List.set_cons_succ]
              refine wpAnyH_take (i := 13) (oi := { dst := some 66, op := Go.Op.load 23 (Go.Operand.tmp 65), type := 23, pos := "ref.go:52", after := #[{ on := 12, ground := Go.Ground.data }, { on := 11, ground := Go.Ground.guard }], guard := some (11, true) }) (v := undef) rfl (by kernel_rfl) (by kernel_rfl) (by kernel_rfl) (fun _ _ _ h => h) (Or.inr ⟨by rfl, rfl⟩) (by assumption) ?_
              simp only [Act.put, List.setIfInBounds_toArray, List.set_cons_zero, List.set_cons_succ]
              refine wpAnyH_take (i := 14) (oi := { dst := some 67, op := Go.Op.move (Go.Operand.tmp 3), type := 3, pos := "ref.go:52", after := #[{ on := 11, ground := Go.Ground.guard }], guard := some (11, true) }) (v := undef) rfl (by kernel_rfl) (by kernel_rfl) (by kernel_rfl) (fun _ _ _ h => h) (Or.inr ⟨by rfl, rfl⟩) (by assumption) ?_
              simp only [Act.put, List.setIfInBounds_toArray, List.set_cons_zero, List.set_cons_succ]
              refine wpAnyH_take (i := 15) (oi := { dst := some 68, op := Go.Op.indexAddr 23 (Go.Operand.tmp 66) (Go.Operand.tmp 67), type := 0, pos := "ref.go:52", after := #[{ on := 13, ground := Go.Ground.data }, { on := 14, ground := Go.Ground.data }, { on := 11, ground := Go.Ground.guard }], guard := some (11, true) }) (v := undef) rfl (by kernel_rfl) (by kernel_rfl) (by kernel_rfl) (fun _ _ _ h => h) (Or.inr ⟨by rfl, rfl⟩) (by assumption) ?_
              simp only [Act.put, List.setIfInBounds_toArray, List.set_cons_zero, List.set_cons_succ]
              refine wpAnyH_take (i := 16) (oi := { dst := some 69, op := Go.Op.fieldAddr 43 (Go.Operand.tmp 68) 0, type := 0, pos := "ref.go:52", after := #[{ on := 15, ground := Go.Ground.data }, { on := 11, ground := Go.Ground.guard }], guard := some (11, true) }) (v := undef) rfl (by kernel_rfl) (by kernel_rfl) (by kernel_rfl) (fun _ _ _ h => h) (Or.inr ⟨by rfl, rfl⟩) (by assumption) ?_
              simp only [Act.put, List.setIfInBounds_toArray, List.set_cons_zero, List.set_cons_succ]
              refine wpAnyH_take (i := 17) (oi := { dst := some 70, op := Go.Op.load 39 (Go.Operand.tmp 69), type := 39, pos := "ref.go:52", after := #[{ on := 16, ground := Go.Ground.data }, { on := 11, ground := Go.Ground.guard }], guard := some (11, true) }) (v := undef) rfl (by kernel_rfl) (by kernel_rfl) (by kernel_rfl) (fun _ _ _ h => h) (Or.inr ⟨by rfl, rfl⟩) (by assumption) ?_
              simp only [Act.put, List.setIfInBounds_toArray, List.set_cons_zero, List.set_cons_succ]
              refine wpAnyH_take (i := 18) (oi := { dst := some 71, op := Go.Op.fieldAddr 25 (Go.Operand.tmp 1) 5, type := 0, pos := "ref.go:52", after := #[{ on := 11, ground := Go.Ground.guard }], guard := some (11, true) }) (v := undef) rfl (by kernel_rfl) (by kernel_rfl) (by kernel_rfl) (fun _ _ _ h => h) (Or.inr ⟨by rfl, rfl⟩) (by assumption) ?_
              simp only [Act.put, List.setIfInBounds_toArray, List.set_cons_zero, List.set_cons_succ]
              refine wpAnyH_take (i := 19) (oi := { dst := some 72, op := Go.Op.load 23 (Go.Operand.tmp 71), type := 23, pos := "ref.go:52", after := #[{ on := 18, ground := Go.Ground.data }, { on := 11, ground := Go.Ground.guard }], guard := some (11, true) }) (v := undef) rfl (by kernel_rfl) (by kernel_rfl) (by kernel_rfl) (fun _ _ _ h => h) (Or.inr ⟨by rfl, rfl⟩) (by assumption) ?_
              simp only [Act.put, List.setIfInBounds_toArray, List.set_cons_zero, List.set_cons_succ]
              refine wpAnyH_take (i := 20) (oi := { dst := some 73, op := Go.Op.move (Go.Operand.tmp 3), type := 3, pos := "ref.go:52", after := #[{ on := 11, ground := Go.Ground.guard }], guard := some (11, true) }) (v := undef) rfl (by kernel_rfl) (by kernel_rfl) (by kernel_rfl) (fun _ _ _ h => h) (Or.inr ⟨by rfl, rfl⟩) (by assumption) ?_
              simp only [Act.put, List.setIfInBounds_toArray, List.set_cons_zero, List.set_cons_succ]
              refine wpAnyH_take (i := 21) (oi := { dst := some 74, op := Go.Op.binOp Go.BinOp.sub 3 (Go.Operand.tmp 73) (Go.Operand.const (Go.Value.int Go.IntKind.i64 1)) 3, type := 3, pos := "ref.go:52", after := #[{ on := 20, ground := Go.Ground.data }, { on := 11, ground := Go.Ground.guard }], guard := some (11, true) }) (v := undef) rfl (by kernel_rfl) (by kernel_rfl) (by kernel_rfl) (fun _ _ _ h => h) (Or.inr ⟨by rfl, rfl⟩) (by assumption) ?_
              simp only [Act.put, List.setIfInBounds_toArray, List.set_cons_zero, List.set_cons_succ]
              refine wpAnyH_take (i := 22) (oi := { dst := some 75, op := Go.Op.indexAddr 23 (Go.Operand.tmp 72) (Go.Operand.tmp 74), type := 0, pos := "ref.go:52", after := #[{ on := 19, ground := Go.Ground.data }, { on := 21, ground := Go.Ground.data }, { on := 11, ground := Go.Ground.guard }], guard := some (11, true) }) (v := undef) rfl (by kernel_rfl) (by kernel_rfl) (by kernel_rfl) (fun _ _ _ h => h) (Or.inr ⟨by rfl, rfl⟩) (by assumption) ?_
              simp only [Act.put, List.setIfInBounds_toArray, List.set_cons_zero, List.set_cons_succ]
              refine wpAnyH_take (i := 23) (oi := { dst := some 76, op := Go.Op.fieldAddr 43 (Go.Operand.tmp 75) 0, type := 0, pos := "ref.go:52", after := #[{ on := 22, ground := Go.Ground.data }, { on := 11, ground := Go.Ground.guard }], guard := some (11, true) }) (v := undef) rfl (by kernel_rfl) (by kernel_rfl) (by kernel_rfl) (fun _ _ _ h => h) (Or.inr ⟨by rfl, rfl⟩) (by assumption) ?_
              simp only [Act.put, List.setIfInBounds_toArray, List.set_cons_zero, List.set_cons_succ]
              refine wpAnyH_take (i := 24) (oi := { dst := some 77, op := Go.Op.load 39 (Go.Operand.tmp 76), type := 39, pos := "ref.go:52", after := #[{ on := 23, ground := Go.Ground.data }, { on := 11, ground := Go.Ground.guard }], guard := some (11, true) }) (v := undef) rfl (by kernel_rfl) (by kernel_rfl) (by kernel_rfl) (fun _ _ _ h => h) (Or.inr ⟨by rfl, rfl⟩) (by assumption) ?_
              simp only [Act.put, List.setIfInBounds_toArray, List.set_cons_zero, List.set_cons_succ]
              refine wpAnyH_take (i := 25) (oi := { dst := some 78, op := Go.Op.binOp Go.BinOp.leq 39 (Go.Operand.tmp 70) (Go.Operand.tmp 77) 39, type := 4, pos := "ref.go:52", after := #[{ on := 17, ground := Go.Ground.data }, { on := 24, ground := Go.Ground.data }, { on := 11, ground := Go.Ground.guard }], guard := some (11, true) }) (v := undef) rfl (by kernel_rfl) (by kernel_rfl) (by kernel_rfl) (fun _ _ _ h => h) (Or.inr ⟨by rfl, rfl⟩) (by assumption) ?_
              simp only [Act.put, List.setIfInBounds_toArray, List.set_cons_zero, List.set_cons_succ]
              refine wpAnyH_take (i := 26) (oi := { dst := some 79, op := Go.Op.pick (Go.Operand.tmp 64) (Go.Operand.tmp 78) (Go.Operand.const (Go.Value.bool false)), type := 4, pos := "ref.go:52", after := #[{ on := 11, ground := Go.Ground.data }, { on := 25, ground := Go.Ground.data }, { on := 8, ground := Go.Ground.guard }], guard := some (8, false) }) (v := undef) rfl (by kernel_rfl) (by kernel_rfl) (by kernel_rfl) (fun _ _ _ h => h) (Or.inr ⟨by rfl, rfl⟩) (by assumption) ?_
              simp only [Act.put, List.setIfInBounds_toArray, List.set_cons_zero, List.set_cons_succ]
              refine wpAnyH_take (i := 27) (oi := { dst := some 80, op := Go.Op.pick (Go.Operand.tmp 61) (Go.Operand.const (Go.Value.bool true)) (Go.Operand.tmp 79), type := 4, pos := "ref.go:52", after := #[{ on := 8, ground := Go.Ground.data }, { on := 26, ground := Go.Ground.data }], guard := none }) (v := ?_) rfl (by kernel_rfl) (by kernel_rfl) (by kernel_rfl) (fun _ _ _ h => h) (Or.inl ⟨by rfl, ?hy27a⟩) (by assumption) ?rest27a
              case hy27a => (intro w hSw; (try dsimp only at hSw); go_simp; first | (with_reducible rfl) | (rw [if_neg (by omega)]) | skip)
              simp only [Act.put, List.setIfInBounds_toArray, List.set_cons_zero, List.set_cons_succ]
              refine wpAnyH_done (by kernel_rfl) ?_ _
              refine NoPanic.normal ?_
              go_wp2_with fail
              go_meet
              exact ⟨rfl, hid (KN.out.below hHeld.2.2.2.1), by have := hHeld.2.2.2.2; omega, hid (HB.out.trans (hHeld.2.2.2.1.mono HB.out.size))⟩
            case rest =>
              obtain ⟨rfl, _, _, HX⟩ := hcut
              go_wp2
              go_ret
              exact ⟨ret_bool (by rw [HS.out, HV.out]), HX.out⟩
          · rw [hv] at HT
            rcases i with _ | j
            · have HV := hid (show allB (rlGood l) (0 + 1) = true from by rw [allB, HA.out, Bool.true_and]; show (rnamed (rd_T43 l ((0 : Nat) : Int)).f1 && upB (rlIdx l) 0) = true; rw [hv]; rfl)
              have ea : ad.add (0 * 2) = ad := add_nought ad
              rw [ea, show (((0 : Nat) : Int)) = 0 from rfl] at e1 e2
              rw [show (((0 : Nat) : Int)) = 0 from rfl] at HT
              clear hv hcr ea
              have S0 : wr.cell? ⟨w.heap.size, 5, none⟩ = some (.slice (some ad) nl d) ∧ wr.cell? ad = some (.int .u32 (rd_T43 l 0).f0) ∧ wr.cell? ⟨ad.block, ad.off + 1, none⟩ = some (.slice A1 (rd_T43 l 0).f1.length c1) ∧ Below wr.heap.size wr wr ∧ wr.heap.size ≤ wr.heap.size := ⟨k5, e1, e2, Below.refl _ _, Nat.le_refl _⟩
              go_upto_region 6 with (fail)
              clear k5 e1 e2
              go_cut [80] (fun s80 wx => s80 = .bool false ∧ Hid (rBoxN w.heap.size b1 b2 b3 m (.slice A nf c) (.slice (some ad) nl d) wx) ∧ w.heap.size < wx.heap.size ∧ Hid (Below w.heap.size w wx))
              case first =>
                refine wp_region_noPanic ?_
                refine wp_region_held_drew (S := (fun W => W.cell? ⟨w.heap.size, 5, none⟩ = some (.slice (some ad) nl d) ∧ W.cell? ad = some (.int .u32 (rd_T43 l 0).f0) ∧ W.cell? ⟨ad.block, ad.off + 1, none⟩ = some (.slice A1 (rd_T43 l 0).f1.length c1) ∧ Below wr.heap.size wr W ∧ wr.heap.size ≤ W.heap.size)) (by kernel_rfl) ?hSb (fun hHeld => ?gob)
                case hSb => first | exact S0 | assumption | exact keepH4 (by assumption) (by assumption) | exact keepH4 S0 (below_drew (Below.refl _ _))
                refine wpAnyH_take (i := 0) (oi := { dst := some 53, op := Go.Op.fieldAddr 25 (Go.Operand.tmp 1) 5, type := 0, pos := "ref.go:52", after := #[], guard := none }) (v := ?_) rfl (by kernel_rfl) (by kernel_rfl) (by kernel_rfl) (fun _ _ _ h => h) (Or.inl ⟨by rfl, ?hy0b⟩) (by assumption) ?rest0b
                case hy0b => (intro w hSw; (try dsimp only at hSw); go_simp; first | (with_reducible rfl) | (rw [if_neg (by omega)]) | skip)
                simp only [Act.put, List.setIfInBounds_toArray, List.set_cons_zero, List.set_cons_succ]
                refine wpAnyH_take (i := 1) (oi := { dst := some 54, op := Go.Op.load 23 (Go.Operand.tmp 53), type := 23, pos := "ref.go:52", after := #[{ on := 0, ground := Go.Ground.data }], guard := none }) (v := ?_) rfl (by kernel_rfl) (by kernel_rfl) (by kernel_rfl) (fun _ _ _ h => h) (Or.inl ⟨by rfl, ?hy1b⟩) (by assumption) ?rest1b
                case hy1b => (intro w hSw; (try dsimp only at hSw); go_simp; first | (with_reducible rfl) | (rw [if_neg (by omega)]) | skip)
                simp only [Act.put, List.setIfInBounds_toArray, List.set_cons_zero, List.set_cons_succ]
                refine wpAnyH_take (i := 2) (oi := { dst := some 55, op := Go.Op.move (Go.Operand.tmp 3), type := 3, pos := "ref.go:52", after := #[], guard := none }) (v := ?_) rfl (by kernel_rfl) (by kernel_rfl) (by kernel_rfl) (fun _ _ _ h => h) (Or.inl ⟨by rfl, ?hy2b⟩) (by assumption) ?rest2b
                case hy2b => (intro w hSw; (try dsimp only at hSw); go_simp; first | (with_reducible rfl) | (rw [if_neg (by omega)]) | skip)
                simp only [Act.put, List.setIfInBounds_toArray, List.set_cons_zero, List.set_cons_succ]
                refine wpAnyH_take (i := 3) (oi := { dst := some 56, op := Go.Op.indexAddr 23 (Go.Operand.tmp 54) (Go.Operand.tmp 55), type := 0, pos := "ref.go:52", after := #[{ on := 1, ground := Go.Ground.data }, { on := 2, ground := Go.Ground.data }], guard := none }) (v := ?_) rfl (by kernel_rfl) (by kernel_rfl) (by kernel_rfl) (fun _ _ _ h => h) (Or.inl ⟨by rfl, ?hy3b⟩) (by assumption) ?rest3b
                case hy3b => (intro w hSw; (try dsimp only at hSw); go_simp; first | (with_reducible rfl) | (rw [if_neg (by omega)]) | skip)
                simp only [Act.put, List.setIfInBounds_toArray, List.set_cons_zero, List.set_cons_succ]
                refine wpAnyH_take (i := 4) (oi := { dst := some 57, op := Go.Op.fieldAddr 43 (Go.Operand.tmp 56) 1, type := 0, pos := "ref.go:52", after := #[{ on := 3, ground := Go.Ground.data }], guard := none }) (v := ?_) rfl (by kernel_rfl) (by kernel_rfl) (by kernel_rfl) (fun _ _ _ h => h) (Or.inl ⟨by rfl, ?hy4b⟩) (by assumption) ?rest4b
                case hy4b => (intro w hSw; (try dsimp only at hSw); go_simp; first | (with_reducible rfl) | (rw [if_neg (by omega)]) | skip)
                simp only [Act.put, List.setIfInBounds_toArray, List.set_cons_zero, List.set_cons_succ]
                refine wpAnyH_take (i := 5) (oi := { dst := some 58, op := Go.Op.load 22 (Go.Operand.tmp 57), type := 22, pos := "ref.go:52", after := #[{ on := 4, ground := Go.Ground.data }], guard := none }) (v := ?_) rfl (by kernel_rfl) (by kernel_rfl) (by kernel_rfl) (fun _ _ _ h => h) (Or.inl ⟨by rfl, ?hy5b⟩) (by assumption) ?rest5b
                case hy5b => (intro w hSw; (try dsimp only at hSw); go_simp; first | (with_reducible rfl) | (rw [if_neg (by omega)]) | skip)
                simp only [Act.put, List.setIfInBounds_toArray, List.set_cons_zero, List.set_cons_succ]
                refine wpAnyH_ready (rs := [6]) (by kernel_rfl) (by simp) ?_
                refine AllReadyH.cons (o := { dst := some 59, op := Go.Op.call { callee := Go.Callee.value (Go.Operand.func 15), args := #[Go.Operand.tmp 58], argTypes := #[22] }, type := 4, pos := "ref.go:52", after := #[{ on := 5, ground := Go.Ground.data }], guard := none }) rfl (fun K hK => ?_) AllReadyH.nil
                go_simp
                go_at_call 15; (with_reducible refine (HT.out _ (‹_ ∧ _ ∧ _ ∧ Below wr.heap.size wr _ ∧ _›).2.2.2.1).mono ?_); rintro e w' ⟨rfl, hb1⟩
                refine hK.out _ _ ?_ (fun hHeld => ?_)
                · (try dsimp only); first | exact S0 | assumption | exact keepH4 (by assumption) (by assumption) | exact keepH4 S0 (below_drew (Below.refl _ _))
                clear hK K
                try simp only [Act.put, List.setIfInBounds_toArray, List.set_cons_zero, List.set_cons_succ]
                refine wpAnyH_take (i := 7) (oi := { dst := some 60, op := Go.Op.unOp Go.UnOp.not 4 (Go.Operand.tmp 59), type := 4, pos := "ref.go:52", after := #[{ on := 6, ground := Go.Ground.data }], guard := none }) (v := ?_) rfl (by kernel_rfl) (by kernel_rfl) (by kernel_rfl) (fun _ _ _ h => h) (Or.inl ⟨by rfl, ?hy7b⟩) (by assumption) ?rest7b
                case hy7b => (intro w hSw; (try dsimp only at hSw); go_simp; first | (with_reducible rfl) | (rw [if_neg (by omega)]) | skip)
                simp only [Act.put, List.setIfInBounds_toArray, List.set_cons_zero, List.set_cons_succ]
                refine wpAnyH_take (i := 8) (oi := { dst := some 61, op := Go.Op.move (Go.Operand.tmp 60), type := 4, pos := "ref.go:52", after := #[{ on := 7, ground := Go.Ground.data }, { on := 6, ground := Go.Ground.chain }], guard := none }) (v := ?_) rfl (by kernel_rfl) (by kernel_rfl) (by kernel_rfl) (fun _ _ _ h => h) (Or.inl ⟨by rfl, ?hy8b⟩) (by assumption) ?rest8b
                case hy8b => (intro w hSw; (try dsimp only at hSw); go_simp; first | (with_reducible rfl) | (rw [if_neg (by omega)]) | skip)
                simp only [Act.put, List.setIfInBounds_toArray, List.set_cons_zero, List.set_cons_succ]
                refine wpAnyH_take (i := 9) (oi := { dst := some 62, op := Go.Op.move (Go.Operand.tmp 3), type := 3, pos := "ref.go:52", after := #[{ on := 8, ground := Go.Ground.guard }], guard := some (8, false) }) (v := ?_) rfl (by kernel_rfl) (by kernel_rfl) (by kernel_rfl) (fun _ _ _ h => h) (Or.inl ⟨by rfl, ?hy9b⟩) (by assumption) ?rest9b
                case hy9b => (intro w hSw; (try dsimp only at hSw); go_simp; first | (with_reducible rfl) | (rw [if_neg (by omega)]) | skip)
                simp only [Act.put, List.setIfInBounds_toArray, List.set_cons_zero, List.set_cons_succ]
                refine wpAnyH_take (i := 10) (oi := { dst := some 63, op := Go.Op.binOp Go.BinOp.gtr 3 (Go.Operand.tmp 62) (Go.Operand.const (Go.Value.int Go.IntKind.i64 0)) 3, type := 4, pos := "ref.go:52", after := #[{ on := 9, ground := Go.Ground.data }, { on := 8, ground := Go.Ground.guard }], guard := some (8, false) }) (v := ?_) rfl (by kernel_rfl) (by kernel_rfl) (by kernel_rfl) (fun _ _ _ h => h) (Or.inl ⟨by rfl, ?hy10b⟩) (by assumption) ?rest10b
                case hy10b => (intro w hSw; (try dsimp only at hSw); go_simp; first | (with_reducible rfl) | (rw [if_neg (by omega)]) | skip)
                simp only [Act.put, List.setIfInBounds_toArray, List.set_cons_zero, List.set_cons_succ]
                refine wpAnyH_take (i := 11) (oi := { dst := some 64, op := Go.Op.move (Go.Operand.tmp 63), type := 4, pos := "ref.go:52", after := #[{ on := 10, ground := Go.Ground.data }, { on := 8, ground := Go.Ground.chain }, { on := 8, ground := Go.Ground.guard }], guard := some (8, false) }) (v := ?_) rfl (by kernel_rfl) (by kernel_rfl) (by kernel_rfl) (fun _ _ _ h => h) (Or.inl ⟨by rfl, ?hy11b⟩) (by assumption) ?rest11b
                case hy11b => (intro w hSw; (try dsimp only at hSw); go_simp; first | (with_reducible rfl) | (rw [if_neg (by omega)]) | skip)
                simp only [Act.put, List.setIfInBounds_toArray, List.set_cons_zero, List.set_cons_succ]
                refine wpAnyH_take (i := 12) (oi := { dst := some 65, op := Go.Op.fieldAddr 25 (Go.Operand.tmp 1) 5, type := 0, pos := "ref.go:52", after := #[{ on := 11, ground := Go.Ground.guard }], guard := some (11, true) }) (v := undef) rfl (by kernel_rfl) (by kernel_rfl) (by kernel_rfl) (fun _ _ _ h => h) (Or.inr ⟨by rfl, rfl⟩) (by assumption) ?_
                simp only [Act.put, List.setIfInBounds_toArray, List.set_cons_zero, List.set_cons_succ]
                refine wpAnyH_take (i := 13) (oi := { dst := some 66, op := Go.Op.load 23 (Go.Operand.tmp 65), type := 23, pos := "ref.go:52", after := #[{ on := 12, ground := Go.Ground.data }, { on := 11, ground := Go.Ground.guard }], guard := some (11, true) }) (v := undef) rfl (by kernel_rfl) (by kernel_rfl) (by kernel_rfl) (fun _ _ _ h => h) (Or.inr ⟨by rfl, rfl⟩) (by assumption) ?_
                simp only [Act.put, List.setIfInBounds_toArray, List.set_cons_zero, List.set_cons_succ]
                refine wpAnyH_take (i := 14) (oi := { dst := some 67, op := Go.Op.move (Go.Operand.tmp 3), type := 3, pos := "ref.go:52", after := #[{ on := 11, ground := Go.Ground.guard }], guard := some (11, true) }) (v := undef) rfl (by kernel_rfl) (by kernel_rfl) (by kernel_rfl) (fun _ _ _ h => h) (Or.inr ⟨by rfl, rfl⟩) (by assumption) ?_
                simp only [Act.put, List.setIfInBounds_toArray, List.set_cons_zero, List.set_cons_succ]
                refine wpAnyH_take (i := 15) (oi := { dst := some 68, op := Go.Op.indexAddr 23 (Go.Operand.tmp 66) (Go.Operand.tmp 67), type := 0, pos := "ref.go:52", after := #[{ on := 13, ground := Go.Ground.data }, { on := 14, ground := Go.Ground.data }, { on := 11, ground := Go.Ground.guard }], guard := some (11, true) }) (v := undef) rfl (by kernel_rfl) (by kernel_rfl) (by kernel_rfl) (fun _ _ _ h => h) (Or.inr ⟨by rfl, rfl⟩) (by assumption) ?_
                simp only [Act.put, List.setIfInBounds_toArray, List.set_cons_zero, List.set_cons_succ]
                refine wpAnyH_take (i := 16) (oi := { dst := some 69, op := Go.Op.fieldAddr 43 (Go.Operand.tmp 68) 0, type := 0, pos := "ref.go:52", after := #[{ on := 15, ground := Go.Ground.data }, { on := 11, ground := Go.Ground.guard }], guard := some (11, true) }) (v := undef) rfl (by kernel_rfl) (by kernel_rfl) (by kernel_rfl) (fun _ _ _ h => h) (Or.inr ⟨by rfl, rfl⟩) (by assumption) ?_
                simp only [Act.put, List.setIfInBounds_toArray, List.set_cons_zero, List.set_cons_succ]
                refine wpAnyH_take (i := 17) (oi := { dst := some 70, op := Go.Op.load 39 (Go.Operand.tmp 69), type := 39, pos := "ref.go:52", after := #[{ on := 16, ground := Go.Ground.data }, { on := 11, ground := Go.Ground.guard }], guard := some (11, true) }) (v := undef) rfl (by kernel_rfl) (by kernel_rfl) (by kernel_rfl) (fun _ _ _ h => h) (Or.inr ⟨by rfl, rfl⟩) (by assumption) ?_
                simp only [Act.put, List.setIfInBounds_toArray, List.set_cons_zero, List.set_cons_succ]
                refine wpAnyH_take (i := 18) (oi := { dst := some 71, op := Go.Op.fieldAddr 25 (Go.Operand.tmp 1) 5, type := 0, pos := "ref.go:52", after := #[{ on := 11, ground := Go.Ground.guard }], guard := some (11, true) }) (v := undef) rfl (by kernel_rfl) (by kernel_rfl) (by kernel_rfl) (fun _ _ _ h => h) (Or.inr ⟨by rfl, rfl⟩) (by assumption) ?_
                simp only [Act.put, List.setIfInBounds_toArray, List.set_cons_zero, List.set_cons_succ]
                refine wpAnyH_take (i := 19) (oi := { dst := some 72, op := Go.Op.load 23 (Go.Operand.tmp 71), type := 23, pos := "ref.go:52", after := #[{ on := 18, ground := Go.Ground.data }, { on := 11, ground := Go.Ground.guard }], guard := some (11, true) }) (v := undef) rfl (by kernel_rfl) (by kernel_rfl) (by kernel_rfl) (fun _ _ _ h => h) (Or.inr ⟨by rfl, rfl⟩) (by assumption) ?_
                simp only [Act.put, List.setIfInBounds_toArray, List.set_cons_zero, List.set_cons_succ]
                refine wpAnyH_take (i := 20) (oi := { dst := some 73, op := Go.Op.move (Go.Operand.tmp 3), type := 3, pos := "ref.go:52", after := #[{ on := 11, ground := Go.Ground.guard }], guard := some (11, true) }) (v := undef) rfl (by kernel_rfl) (by kernel_rfl) (by kernel_rfl) (fun _ _ _ h => h) (Or.inr ⟨by rfl, rfl⟩) (by assumption) ?_
                simp only [Act.put, List.setIfInBounds_toArray, List.set_cons_zero, List.set_cons_succ]
                refine wpAnyH_take (i := 21) (oi := { dst := some 74, op := Go.Op.binOp Go.BinOp.sub 3 (Go.Operand.tmp 73) (Go.Operand.const (Go.Value.int Go.IntKind.i64 1)) 3, type := 3, pos := "ref.go:52", after := #[{ on := 20, ground := Go.Ground.data }, { on := 11, ground := Go.Ground.guard }], guard := some (11, true) }) (v := undef) rfl (by kernel_rfl) (by kernel_rfl) (by kernel_rfl) (fun _ _ _ h => h) (Or.inr ⟨by rfl, rfl⟩) (by assumption) ?_
                simp only [Act.put, List.setIfInBounds_toArray, List.set_cons_zero, List.set_cons_succ]
                refine wpAnyH_take (i := 22) (oi := { dst := some 75, op := Go.Op.indexAddr 23 (Go.Operand.tmp 72) (Go.Operand.tmp 74), type := 0, pos := "ref.go:52", after := #[{ on := 19, ground := Go.Ground.data }, { on := 21, ground := Go.Ground.data }, { on := 11, ground := Go.Ground.guard }], guard := some (11, true) }) (v := undef) rfl (by kernel_rfl) (by kernel_rfl) (by kernel_rfl) (fun _ _ _ h => h) (Or.inr ⟨by rfl, rfl⟩) (by assumption) ?_
                simp only [Act.put, List.setIfInBounds_toArray, List.set_cons_zero, List.set_cons_succ]
                refine wpAnyH_take (i := 23) (oi := { dst := some 76, op := Go.Op.fieldAddr 43 (Go.Operand.tmp 75) 0, type := 0, pos := "ref.go:52", after := #[{ on := 22, ground := Go.Ground.data }, { on := 11, ground := Go.Ground.guard }], guard := some (11, true) }) (v := undef) rfl (by kernel_rfl) (by kernel_rfl) (by kernel_rfl) (fun _ _ _ h => h) (Or.inr ⟨by rfl, rfl⟩) (by assumption) ?_
                simp only [Act.put, List.setIfInBounds_toArray, List.set_cons_zero, List.set_cons_succ]
                refine wpAnyH_take (i := 24) (oi := { dst := some 77, op := Go.Op.load 39 (Go.Operand.tmp 76), type := 39, pos := "ref.go:52", after := #[{ on := 23, ground := Go.Ground.data }, { on := 11, ground := Go.Ground.guard }], guard := some (11, true) }) (v := undef) rfl (by kernel_rfl) (by kernel_rfl) (by kernel_rfl) (fun _ _ _ h => h) (Or.inr ⟨by rfl, rfl⟩) (by assumption) ?_
                simp only [Act.put, List.setIfInBounds_toArray, List.set_cons_zero, List.set_cons_succ]
                refine wpAnyH_take (i := 25) (oi := { dst := some 78, op := Go.Op.binOp Go.BinOp.leq 39 (Go.Operand.tmp 70) (Go.Operand.tmp 77) 39, type := 4, pos := "ref.go:52", after := #[{ on := 17, ground := Go.Ground.data }, { on := 24, ground := Go.Ground.data }, { on := 11, ground := Go.Ground.guard }], guard := some (11, true) }) (v := undef) rfl (by kernel_rfl) (by kernel_rfl) (by kernel_rfl) (fun _ _ _ h => h) (Or.inr ⟨by rfl, rfl⟩) (by assumption) ?_
                simp only [Act.put, List.setIfInBounds_toArray, List.set_cons_zero, List.set_cons_succ]
                refine wpAnyH_take (i := 26) (oi := { dst := some 79, op := Go.Op.pick (Go.Operand.tmp 64) (Go.Operand.tmp 78) (Go.Operand.const (Go.Value.bool false)), type := 4, pos := "ref.go:52", after := #[{ on := 11, ground := Go.Ground.data }, { on := 25, ground := Go.Ground.data }, { on := 8, ground := Go.Ground.guard }], guard := some (8, false) }) (v := ?_) rfl (by kernel_rfl) (by kernel_rfl) (by kernel_rfl) (fun _ _ _ h => h) (Or.inl ⟨by rfl, ?hy26b⟩) (by assumption) ?rest26b
                case hy26b => (intro w hSw; (try dsimp only at hSw); go_simp; first | (with_reducible rfl) | (rw [if_neg (by omega)]) | skip)
                simp only [Act.put, List.setIfInBounds_toArray, List.set_cons_zero, List.set_cons_succ]
                refine wpAnyH_take (i := 27) (oi := { dst := some 80, op := Go.Op.pick (Go.Operand.tmp 61) (Go.Operand.const (Go.Value.bool true)) (Go.Operand.tmp 79), type := 4, pos := "ref.go:52", after := #[{ on := 8, ground := Go.Ground.data }, { on := 26, ground := Go.Ground.data }], guard := none }) (v := ?_) rfl (by kernel_rfl) (by kernel_rfl) (by kernel_rfl) (fun _ _ _ h => h) (Or.inl ⟨by rfl, ?hy27b⟩) (by assumption) ?rest27b
                case hy27b => (intro w hSw; (try dsimp only at hSw); go_simp; first | (with_reducible rfl) | (rw [if_neg (by omega)]) | skip)
                simp only [Act.put, List.setIfInBounds_toArray, List.set_cons_zero, List.set_cons_succ]
                refine wpAnyH_done (by kernel_rfl) ?_ _
                refine NoPanic.normal ?_
                go_wp2_with fail
                go_meet
                exact ⟨rfl, hid (KN.out.below hHeld.2.2.2.1), by have := hHeld.2.2.2.2; omega, hid (HB.out.trans (hHeld.2.2.2.1.mono HB.out.size))⟩
              case rest =>
                obtain ⟨rfl, KX, hsx, HX⟩ := hcut
                go_wp2
                go_roundw
                case rel => exact ⟨0 + 1, by go_num, by omega, HV, KX, hsx, HX⟩
                case measure => simp [intOf]; omega
            · obtain ⟨ad', A2, c2, he, e3, e4, l2, g2⟩ := at_T43 hcr (j : Int) (by omega) (by omega)
              obtain rfl := Option.some.inj he
              rw [Int.toNat_natCast] at e3 e4
              rw [show (((j + 1 : Nat) : Int)) = (j : Int) + 1 by omega] at e1 e2 HT l1
              have hi4 : (j : Int) < (nl : Int) := by omega
              have hi5 : (0 : Int) ≤ (j : Int) + 1 := by omega
              have hi6 : (j : Int) + 1 < (nl : Int) := by omega
              have hi7 : (0 : Int) < (j : Int) + 1 := by omega
              have hw1 : IntKind.i64.wrap ((j : Int) + 1 - 1) = (j : Int) := by rw [IntKind.wrap_i64]; omega
              have hw2 : IntKind.i64.wrap (j : Int) = (j : Int) := by rw [IntKind.wrap_i64]; omega
              have HG := hid (show rlGood l (j + 1) = decide ((rd_T43 l (j : Int)).f0 < (rd_T43 l ((j : Int) + 1)).f0) from by rw [rlGood, hv, Bool.true_and, rlIdx_up])
              clear hv hcr he g2
              have S0 : wr.cell? ⟨w.heap.size, 5, none⟩ = some (.slice (some ad) nl d) ∧ wr.cell? (ad.add ((j + 1) * 2)) = some (.int .u32 (rd_T43 l (j + 1)).f0) ∧ wr.cell? ⟨(ad.add ((j + 1) * 2)).block, (ad.add ((j + 1) * 2)).off + 1, none⟩ = some (.slice A1 (rd_T43 l (j + 1)).f1.length c1) ∧ wr.cell? (ad.add (j * 2)) = some (.int .u32 (rd_T43 l j).f0) ∧ Below wr.heap.size wr wr ∧ wr.heap.size ≤ wr.heap.size := ⟨k5, e1, e2, e3, Below.refl _ _, Nat.le_refl _⟩
              go_upto_region 6 with (fail)
              clear k5 e1 e2 e3 e4
              go_cut [80] (fun s80 wx => s80 = .bool (decide ((rd_T43 l (j + 1)).f0 ≤ (rd_T43 l j).f0)) ∧ Hid (rBoxN w.heap.size b1 b2 b3 m (.slice A nf c) (.slice (some ad) nl d) wx) ∧ w.heap.size < wx.heap.size ∧ Hid (Below w.heap.size w wx))
              case first =>
                refine wp_region_noPanic ?_
                refine wp_region_held_drew (S := (fun W => W.cell? ⟨w.heap.size, 5, none⟩ = some (.slice (some ad) nl d) ∧ W.cell? (ad.add ((j + 1) * 2)) = some (.int .u32 (rd_T43 l (j + 1)).f0) ∧ W.cell? ⟨(ad.add ((j + 1) * 2)).block, (ad.add ((j + 1) * 2)).off + 1, none⟩ = some (.slice A1 (rd_T43 l (j + 1)).f1.length c1) ∧ W.cell? (ad.add (j * 2)) = some (.int .u32 (rd_T43 l j).f0) ∧ Below wr.heap.size wr W ∧ wr.heap.size ≤ W.heap.size)) (by kernel_rfl) ?hSc (fun hHeld => ?goc)
                case hSc => first | exact S0 | assumption | exact keepH5 (by assumption) (by assumption) | exact keepH5 S0 (below_drew (Below.refl _ _))
                refine wpAnyH_take (i := 0) (oi := { dst := some 53, op := Go.Op.fieldAddr 25 (Go.Operand.tmp 1) 5, type := 0, pos := "ref.go:52", after := #[], guard := none }) (v := ?_) rfl (by kernel_rfl) (by kernel_rfl) (by kernel_rfl) (fun _ _ _ h => h) (Or.inl ⟨by rfl, ?hy0c⟩) (by assumption) ?rest0c
                case hy0c => (intro w hSw; (try dsimp only at hSw); go_simp; first | (with_reducible rfl) | (rw [if_neg (by omega)]) | skip)
                simp only [Act.put, List.setIfInBounds_toArray, List.set_cons_zero, List.set_cons_succ]
                refine wpAnyH_take (i := 1) (oi := { dst := some 54, op := Go.Op.load 23 (Go.Operand.tmp 53), type := 23, pos := "ref.go:52", after := #[{ on := 0, ground := Go.Ground.data }], guard := none }) (v := ?_) rfl (by kernel_rfl) (by kernel_rfl) (by kernel_rfl) (fun _ _ _ h => h) (Or.inl ⟨by rfl, ?hy1c⟩) (by assumption) ?rest1c
                case hy1c => (intro w hSw; (try dsimp only at hSw); go_simp; first | (with_reducible rfl) | (rw [if_neg (by omega)]) | skip)
                simp only [Act.put, List.setIfInBounds_toArray, List.set_cons_zero, List.set_cons_succ]
                refine wpAnyH_take (i := 2) (oi := { dst := some 55, op := Go.Op.move (Go.Operand.tmp 3), type := 3, pos := "ref.go:52", after := #[], guard := none }) (v := ?_) rfl (by kernel_rfl) (by kernel_rfl) (by kernel_rfl) (fun _ _ _ h => h) (Or.inl ⟨by rfl, ?hy2c⟩) (by assumption) ?rest2c
                case hy2c => (intro w hSw; (try dsimp only at hSw); go_simp; first | (with_reducible rfl) | (rw [if_neg (by omega)]) | skip)
                simp only [Act.put, List.setIfInBounds_toArray, List.set_cons_zero, List.set_cons_succ]
                refine wpAnyH_take (i := 3) (oi := { dst := some 56, op := Go.Op.indexAddr 23 (Go.Operand.tmp 54) (Go.Operand.tmp 55), type := 0, pos := "ref.go:52", after := #[{ on := 1, ground := Go.Ground.data }, { on := 2, ground := Go.Ground.data }], guard := none }) (v := ?_) rfl (by kernel_rfl) (by kernel_rfl) (by kernel_rfl) (fun _ _ _ h => h) (Or.inl ⟨by rfl, ?hy3c⟩) (by assumption) ?rest3c
                case hy3c => (intro w hSw; (try dsimp only at hSw); go_simp; first | (with_reducible rfl) | (rw [if_neg (by omega)]) | skip)
                simp only [Act.put, List.setIfInBounds_toArray, List.set_cons_zero, List.set_cons_succ]
                refine wpAnyH_take (i := 4) (oi := { dst := some 57, op := Go.Op.fieldAddr 43 (Go.Operand.tmp 56) 1, type := 0, pos := "ref.go:52", after := #[{ on := 3, ground := Go.Ground.data }], guard := none }) (v := ?_) rfl (by kernel_rfl) (by kernel_rfl) (by kernel_rfl) (fun _ _ _ h => h) (Or.inl ⟨by rfl, ?hy4c⟩) (by assumption) ?rest4c
                case hy4c => (intro w hSw; (try dsimp only at hSw); go_simp; first | (with_reducible rfl) | (rw [if_neg (by omega)]) | skip)
                simp only [Act.put, List.setIfInBounds_toArray, List.set_cons_zero, List.set_cons_succ]
                refine wpAnyH_take (i := 5) (oi := { dst := some 58, op := Go.Op.load 22 (Go.Operand.tmp 57), type := 22, pos := "ref.go:52", after := #[{ on := 4, ground := Go.Ground.data }], guard := none }) (v := ?_) rfl (by kernel_rfl) (by kernel_rfl) (by kernel_rfl) (fun _ _ _ h => h) (Or.inl ⟨by rfl, ?hy5c⟩) (by assumption) ?rest5c
                case hy5c => (intro w hSw; (try dsimp only at hSw); go_simp; first | (with_reducible rfl) | (rw [if_neg (by omega)]) | skip)
                simp only [Act.put, List.setIfInBounds_toArray, List.set_cons_zero, List.set_cons_succ]
                refine wpAnyH_ready (rs := [6]) (by kernel_rfl) (by simp) ?_
                refine AllReadyH.cons (o := { dst := some 59, op := Go.Op.call { callee := Go.Callee.value (Go.Operand.func 15), args := #[Go.Operand.tmp 58], argTypes := #[22] }, type := 4, pos := "ref.go:52", after := #[{ on := 5, ground := Go.Ground.data }], guard := none }) rfl (fun K hK => ?_) AllReadyH.nil
                go_simp
                go_at_call 15; (with_reducible refine (HT.out _ (‹_ ∧ _ ∧ _ ∧ _ ∧ Below wr.heap.size wr _ ∧ _›).2.2.2.2.1).mono ?_); rintro e w' ⟨rfl, hb1⟩
                refine hK.out _ _ ?_ (fun hHeld => ?_)
                · (try dsimp only); first | exact S0 | assumption | exact keepH5 (by assumption) (by assumption) | exact keepH5 S0 (below_drew (Below.refl _ _))
                clear hK K
                try simp only [Act.put, List.setIfInBounds_toArray, List.set_cons_zero, List.set_cons_succ]
                refine wpAnyH_take (i := 7) (oi := { dst := some 60, op := Go.Op.unOp Go.UnOp.not 4 (Go.Operand.tmp 59), type := 4, pos := "ref.go:52", after := #[{ on := 6, ground := Go.Ground.data }], guard := none }) (v := ?_) rfl (by kernel_rfl) (by kernel_rfl) (by kernel_rfl) (fun _ _ _ h => h) (Or.inl ⟨by rfl, ?hy7c⟩) (by assumption) ?rest7c
                case hy7c => (intro w hSw; (try dsimp only at hSw); go_simp; first | (with_reducible rfl) | (rw [if_neg (by omega)]) | skip)
                simp only [Act.put, List.setIfInBounds_toArray, List.set_cons_zero, List.set_cons_succ]
                refine wpAnyH_take (i := 8) (oi := { dst := some 61, op := Go.Op.move (Go.Operand.tmp 60), type := 4, pos := "ref.go:52", after := #[{ on := 7, ground := Go.Ground.data }, { on := 6, ground := Go.Ground.chain }], guard := none }) (v := ?_) rfl (by kernel_rfl) (by kernel_rfl) (by kernel_rfl) (fun _ _ _ h => h) (Or.inl ⟨by rfl, ?hy8c⟩) (by assumption) ?rest8c
                case hy8c => (intro w hSw; (try dsimp only at hSw); go_simp; first | (with_reducible rfl) | (rw [if_neg (by omega)]) | skip)
                simp only [Act.put, List.setIfInBounds_toArray, List.set_cons_zero, List.set_cons_succ]
                refine wpAnyH_take (i := 9) (oi := { dst := some 62, op := Go.Op.move (Go.Operand.tmp 3), type := 3, pos := "ref.go:52", after := #[{ on := 8, ground := Go.Ground.guard }], guard := some (8, false) }) (v := ?_) rfl (by kernel_rfl) (by kernel_rfl) (by kernel_rfl) (fun _ _ _ h => h) (Or.inl ⟨by rfl, ?hy9c⟩) (by assumption) ?rest9c
                case hy9c => (intro w hSw; (try dsimp only at hSw); go_simp; first | (with_reducible rfl) | (rw [if_neg (by omega)]) | skip)
                simp only [Act.put, List.setIfInBounds_toArray, List.set_cons_zero, List.set_cons_succ]
                refine wpAnyH_take (i := 10) (oi := { dst := some 63, op := Go.Op.binOp Go.BinOp.gtr 3 (Go.Operand.tmp 62) (Go.Operand.const (Go.Value.int Go.IntKind.i64 0)) 3, type := 4, pos := "ref.go:52", after := #[{ on := 9, ground := Go.Ground.data }, { on := 8, ground := Go.Ground.guard }], guard := some (8, false) }) (v := ?_) rfl (by kernel_rfl) (by kernel_rfl) (by kernel_rfl) (fun _ _ _ h => h) (Or.inl ⟨by rfl, ?hy10c⟩) (by assumption) ?rest10c
                case hy10c => (intro w hSw; (try dsimp only at hSw); go_simp; first | (with_reducible rfl) | (rw [if_neg (by omega)]) | skip)
                simp only [Act.put, List.setIfInBounds_toArray, List.set_cons_zero, List.set_cons_succ]
                refine wpAnyH_take (i := 11) (oi := { dst := some 64, op := Go.Op.move (Go.Operand.tmp 63), type := 4, pos := "ref.go:52", after := #[{ on := 10, ground := Go.Ground.data }, { on := 8, ground := Go.Ground.chain }, { on := 8, ground := Go.Ground.guard }], guard := some (8, false) }) (v := ?_) rfl (by kernel_rfl) (by kernel_rfl) (by kernel_rfl) (fun _ _ _ h => h) (Or.inl ⟨by rfl, ?hy11c⟩) (by assumption) ?rest11c
                case hy11c => (intro w hSw; (try dsimp only at hSw); go_simp; first | (with_reducible rfl) | (rw [if_neg (by omega)]) | skip)
                simp only [Act.put, List.setIfInBounds_toArray, List.set_cons_zero, List.set_cons_succ]
                refine wpAnyH_take (i := 12) (oi := { dst := some 65, op := Go.Op.fieldAddr 25 (Go.Operand.tmp 1) 5, type := 0, pos := "ref.go:52", after := #[{ on := 11, ground := Go.Ground.guard }], guard := some (11, true) }) (v := ?_) rfl (by kernel_rfl) (by kernel_rfl) (by kernel_rfl) (fun _ _ _ h => h) (Or.inl ⟨by rfl, ?hy12c⟩) (by assumption) ?rest12c
                case hy12c => (intro w hSw; (try dsimp only at hSw); go_simp; first | (with_reducible rfl) | (rw [if_neg (by omega)]) | skip)
                simp only [Act.put, List.setIfInBounds_toArray, List.set_cons_zero, List.set_cons_succ]
                refine wpAnyH_take (i := 13) (oi := { dst := some 66, op := Go.Op.load 23 (Go.Operand.tmp 65), type := 23, pos := "ref.go:52", after := #[{ on := 12, ground := Go.Ground.data }, { on := 11, ground := Go.Ground.guard }], guard := some (11, true) }) (v := ?_) rfl (by kernel_rfl) (by kernel_rfl) (by kernel_rfl) (fun _ _ _ h => h) (Or.inl ⟨by rfl, ?hy13c⟩) (by assumption) ?rest13c
                case hy13c => (intro w hSw; (try dsimp only at hSw); go_simp; first | (with_reducible rfl) | (rw [if_neg (by omega)]) | skip)
                simp only [Act.put, List.setIfInBounds_toArray, List.set_cons_zero, List.set_cons_succ]
                refine wpAnyH_take (i := 14) (oi := { dst := some 67, op := Go.Op.move (Go.Operand.tmp 3), type := 3, pos := "ref.go:52", after := #[{ on := 11, ground := Go.Ground.guard }], guard := some (11, true) }) (v := ?_) rfl (by kernel_rfl) (by kernel_rfl) (by kernel_rfl) (fun _ _ _ h => h) (Or.inl ⟨by rfl, ?hy14c⟩) (by assumption) ?rest14c
                case hy14c => (intro w hSw; (try dsimp only at hSw); go_simp; first | (with_reducible rfl) | (rw [if_neg (by omega)]) | skip)
                simp only [Act.put, List.setIfInBounds_toArray, List.set_cons_zero, List.set_cons_succ]
                refine wpAnyH_take (i := 15) (oi := { dst := some 68, op := Go.Op.indexAddr 23 (Go.Operand.tmp 66) (Go.Operand.tmp 67), type := 0, pos := "ref.go:52", after := #[{ on := 13, ground := Go.Ground.data }, { on := 14, ground := Go.Ground.data }, { on := 11, ground := Go.Ground.guard }], guard := some (11, true) }) (v := ?_) rfl (by kernel_rfl) (by kernel_rfl) (by kernel_rfl) (fun _ _ _ h => h) (Or.inl ⟨by rfl, ?hy15c⟩) (by assumption) ?rest15c
                case hy15c => (intro w hSw; (try dsimp only at hSw); go_simp; first | (with_reducible rfl) | (rw [if_neg (by omega)]) | skip)
                simp only [Act.put, List.setIfInBounds_toArray, List.set_cons_zero, List.set_cons_succ]
                refine wpAnyH_take (i := 16) (oi := { dst := some 69, op := Go.Op.fieldAddr 43 (Go.Operand.tmp 68) 0, type := 0, pos := "ref.go:52", after := #[{ on := 15, ground := Go.Ground.data }, { on := 11, ground := Go.Ground.guard }], guard := some (11, true) }) (v := ?_) rfl (by kernel_rfl) (by kernel_rfl) (by kernel_rfl) (fun _ _ _ h => h) (Or.inl ⟨by rfl, ?hy16c⟩) (by assumption) ?rest16c
                case hy16c => (intro w hSw; (try dsimp only at hSw); go_simp; first | (with_reducible rfl) | (rw [if_neg (by omega)]) | skip)
                simp only [Act.put, List.setIfInBounds_toArray, List.set_cons_zero, List.set_cons_succ]
                refine wpAnyH_take (i := 17) (oi := { dst := some 70, op := Go.Op.load 39 (Go.Operand.tmp 69), type := 39, pos := "ref.go:52", after := #[{ on := 16, ground := Go.Ground.data }, { on := 11, ground := Go.Ground.guard }], guard := some (11, true) }) (v := ?_) rfl (by kernel_rfl) (by kernel_rfl) (by kernel_rfl) (fun _ _ _ h => h) (Or.inl ⟨by rfl, ?hy17c⟩) (by assumption) ?rest17c
                case hy17c => (intro w hSw; (try dsimp only at hSw); go_simp; first | (with_reducible rfl) | (rw [if_neg (by omega)]) | skip)
                simp only [Act.put, List.setIfInBounds_toArray, List.set_cons_zero, List.set_cons_succ]
                refine wpAnyH_take (i := 18) (oi := { dst := some 71, op := Go.Op.fieldAddr 25 (Go.Operand.tmp 1) 5, type := 0, pos := "ref.go:52", after := #[{ on := 11, ground := Go.Ground.guard }], guard := some (11, true) }) (v := ?_) rfl (by kernel_rfl) (by kernel_rfl) (by kernel_rfl) (fun _ _ _ h => h) (Or.inl ⟨by rfl, ?hy18c⟩) (by assumption) ?rest18c
                case hy18c => (intro w hSw; (try dsimp only at hSw); go_simp; first | (with_reducible rfl) | (rw [if_neg (by omega)]) | skip)
                simp only [Act.put, List.setIfInBounds_toArray, List.set_cons_zero, List.set_cons_succ]
                refine wpAnyH_take (i := 19) (oi := { dst := some 72, op := Go.Op.load 23 (Go.Operand.tmp 71), type := 23, pos := "ref.go:52", after := #[{ on := 18, ground := Go.Ground.data }, { on := 11, ground := Go.Ground.guard }], guard := some (11, true) }) (v := ?_) rfl (by kernel_rfl) (by kernel_rfl) (by kernel_rfl) (fun _ _ _ h => h) (Or.inl ⟨by rfl, ?hy19c⟩) (by assumption) ?rest19c
                case hy19c => (intro w hSw; (try dsimp only at hSw); go_simp; first | (with_reducible rfl) | (rw [if_neg (by omega)]) | skip)
                simp only [Act.put, List.setIfInBounds_toArray, List.set_cons_zero, List.set_cons_succ]
                refine wpAnyH_take (i := 20) (oi := { dst := some 73, op := Go.Op.move (Go.Operand.tmp 3), type := 3, pos := "ref.go:52", after := #[{ on := 11, ground := Go.Ground.guard }], guard := some (11, true) }) (v := ?_) rfl (by kernel_rfl) (by kernel_rfl) (by kernel_rfl) (fun _ _ _ h => h) (Or.inl ⟨by rfl, ?hy20c⟩) (by assumption) ?rest20c
                case hy20c => (intro w hSw; (try dsimp only at hSw); go_simp; first | (with_reducible rfl) | (rw [if_neg (by omega)]) | skip)
                simp only [Act.put, List.setIfInBounds_toArray, List.set_cons_zero, List.set_cons_succ]
                refine wpAnyH_take (i := 21) (oi := { dst := some 74, op := Go.Op.binOp Go.BinOp.sub 3 (Go.Operand.tmp 73) (Go.Operand.const (Go.Value.int Go.IntKind.i64 1)) 3, type := 3, pos := "ref.go:52", after := #[{ on := 20, ground := Go.Ground.data }, { on := 11, ground := Go.Ground.guard }], guard := some (11, true) }) (v := ?_) rfl (by kernel_rfl) (by kernel_rfl) (by kernel_rfl) (fun _ _ _ h => h) (Or.inl ⟨by rfl, ?hy21c⟩) (by assumption) ?rest21c
                case hy21c => (intro w hSw; (try dsimp only at hSw); go_simp; first | (with_reducible rfl) | (rw [if_neg (by omega)]) | skip)
                simp only [Act.put, List.setIfInBounds_toArray, List.set_cons_zero, List.set_cons_succ]
                refine wpAnyH_take (i := 22) (oi := { dst := some 75, op := Go.Op.indexAddr 23 (Go.Operand.tmp 72) (Go.Operand.tmp 74), type := 0, pos := "ref.go:52", after := #[{ on := 19, ground := Go.Ground.data }, { on := 21, ground := Go.Ground.data }, { on := 11, ground := Go.Ground.guard }], guard := some (11, true) }) (v := ?_) rfl (by kernel_rfl) (by kernel_rfl) (by kernel_rfl) (fun _ _ _ h => h) (Or.inl ⟨by rfl, ?hy22c⟩) (by assumption) ?rest22c
                case hy22c => (intro w hSw; (try dsimp only at hSw); go_simp; first | (with_reducible rfl) | (rw [if_neg (by omega)]) | skip)
                simp only [Act.put, List.setIfInBounds_toArray, List.set_cons_zero, List.set_cons_succ]
                refine wpAnyH_take (i := 23) (oi := { dst := some 76, op := Go.Op.fieldAddr 43 (Go.Operand.tmp 75) 0, type := 0, pos := "ref.go:52", after := #[{ on := 22, ground := Go.Ground.data }, { on := 11, ground := Go.Ground.guard }], guard := some (11, true) }) (v := ?_) rfl (by kernel_rfl) (by kernel_rfl) (by kernel_rfl) (fun _ _ _ h => h) (Or.inl ⟨by rfl, ?hy23c⟩) (by assumption) ?rest23c
                case hy23c => (intro w hSw; (try dsimp only at hSw); go_simp; first | (with_reducible rfl) | (rw [if_neg (by omega)]) | skip)
                simp only [Act.put, List.setIfInBounds_toArray, List.set_cons_zero, List.set_cons_succ]
                refine wpAnyH_take (i := 24) (oi := { dst := some 77, op := Go.Op.load 39 (Go.Operand.tmp 76), type := 39, pos := "ref.go:52", after := #[{ on := 23, ground := Go.Ground.data }, { on := 11, ground := Go.Ground.guard }], guard := some (11, true) }) (v := ?_) rfl (by kernel_rfl) (by kernel_rfl) (by kernel_rfl) (fun _ _ _ h => h) (Or.inl ⟨by rfl, ?hy24c⟩) (by assumption) ?rest24c
                case hy24c => (intro w hSw; (try dsimp only at hSw); go_simp; first | (with_reducible rfl) | (rw [if_neg (by omega)]) | skip)
                simp only [Act.put, List.setIfInBounds_toArray, List.set_cons_zero, List.set_cons_succ]
                refine wpAnyH_take (i := 25) (oi := { dst := some 78, op := Go.Op.binOp Go.BinOp.leq 39 (Go.Operand.tmp 70) (Go.Operand.tmp 77) 39, type := 4, pos := "ref.go:52", after := #[{ on := 17, ground := Go.Ground.data }, { on := 24, ground := Go.Ground.data }, { on := 11, ground := Go.Ground.guard }], guard := some (11, true) }) (v := ?_) rfl (by kernel_rfl) (by kernel_rfl) (by kernel_rfl) (fun _ _ _ h => h) (Or.inl ⟨by rfl, ?hy25c⟩) (by assumption) ?rest25c
                case hy25c => (intro w hSw; (try dsimp only at hSw); go_simp; first | (with_reducible rfl) | (rw [if_neg (by omega)]) | skip)
                simp only [Act.put, List.setIfInBounds_toArray, List.set_cons_zero, List.set_cons_succ]
                refine wpAnyH_take (i := 26) (oi := { dst := some 79, op := Go.Op.pick (Go.Operand.tmp 64) (Go.Operand.tmp 78) (Go.Operand.const (Go.Value.bool false)), type := 4, pos := "ref.go:52", after := #[{ on := 11, ground := Go.Ground.data }, { on := 25, ground := Go.Ground.data }, { on := 8, ground := Go.Ground.guard }], guard := some (8, false) }) (v := ?_) rfl (by kernel_rfl) (by kernel_rfl) (by kernel_rfl) (fun _ _ _ h => h) (Or.inl ⟨by rfl, ?hy26c⟩) (by assumption) ?rest26c
                case hy26c => (intro w hSw; (try dsimp only at hSw); go_simp; first | (with_reducible rfl) | (rw [if_neg (by omega)]) | skip)
                simp only [Act.put, List.setIfInBounds_toArray, List.set_cons_zero, List.set_cons_succ]
                refine wpAnyH_take (i := 27) (oi := { dst := some 80, op := Go.Op.pick (Go.Operand.tmp 61) (Go.Operand.const (Go.Value.bool true)) (Go.Operand.tmp 79), type := 4, pos := "ref.go:52", after := #[{ on := 8, ground := Go.Ground.data }, { on := 26, ground := Go.Ground.data }], guard := none }) (v := ?_) rfl (by kernel_rfl) (by kernel_rfl) (by kernel_rfl) (fun _ _ _ h => h) (Or.inl ⟨by rfl, ?hy27c⟩) (by assumption) ?rest27c
                case hy27c => (intro w hSw; (try dsimp only at hSw); go_simp; first | (with_reducible rfl) | (rw [if_neg (by omega)]) | skip)
                simp only [Act.put, List.setIfInBounds_toArray, List.set_cons_zero, List.set_cons_succ]
                refine wpAnyH_done (by kernel_rfl) ?_ _
                refine NoPanic.normal ?_
                go_wp2_with fail
                go_meet
                exact ⟨rfl, hid (KN.out.below hHeld.2.2.2.2.1), by have := hHeld.2.2.2.2.2; omega, hid (HB.out.trans (hHeld.2.2.2.2.1.mono HB.out.size))⟩
              case rest =>
                obtain ⟨rfl, KX, hsx, HX⟩ := hcut
                by_cases hup : (rd_T43 l (j + 1)).f0 ≤ (rd_T43 l j).f0
                · have HP := hid hup
                  go_wp2
                  go_ret
                  refine ⟨ret_bool ?_, HX.out⟩
                  rw [HS.out]
                  have := allB_not (p := rlGood l) hlt (by rw [HG.out]; exact decide_eq_false (by have := HP.out; omega))
                  rw [this]
                · have HP := hid hup
                  have hup2 : (rd_T43 l j).f0 < (rd_T43 l (j + 1)).f0 := by omega
                  go_wp2
                  go_roundw
                  case rel => exact ⟨j + 2, by go_num, by omega, hid (by rw [allB, HA.out, Bool.true_and, HG.out]; exact decide_eq_true (by have := HP.out; omega)), KX, hsx, HX⟩
                  case measure => simp [intOf]; omega
        · obtain rfl : i = nl := by omega
          go_wp2
          go_ret
          exact ⟨ret_bool (by rw [HS.out, HA.out]), HB.out⟩
end Go.Proofs.Ytiohiiekaofkbaa
