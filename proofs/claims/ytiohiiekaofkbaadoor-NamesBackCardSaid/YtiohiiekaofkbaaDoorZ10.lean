/- Texts of this claim, as far as they are used here: R5, O1, M6, M7. -/
import Derived.Test.YtiohiiekaofkbaaDoorZ09
import Derived.Test.YtiohiiekaofkbaaDoorZ07
import Derived.Test.YtiohiiekaofkbaaDoorZ08
/- May names be, by the reference: dobbyref14.Right. -/
namespace Go.Proofs.YtiohiiekaofkbaaDoor
set_option linter.unusedVariables false
set_option linter.unusedSimpArgs false
open Go.RowKit Go.Proofs.YtiohiiekaofkbaaDoor.PNamesBack Go.Proofs.YtiohiiekaofkbaaDoorW.PrintWords
def rlIdx (l : List S103) (i : Nat) : Int := (rd_T103 l i).f0
theorem rlIdx_up (l : List S103) (j : Nat) : upB (rlIdx l) (j + 1) = decide ((rd_T103 l (j : Int)).f0 < (rd_T103 l ((j : Int) + 1)).f0) := by unfold upB; rw [show decide (j + 1 = 0) = false from by simp, Bool.false_or]; rfl
def rlGood (l : List S103) (i : Nat) : Bool := rnamed (rd_T103 l i).f1 && upB (rlIdx l) i
def rrightB (x : rNs) : Bool := thereB x.hm x.hf x.hl x.md x.fs.length x.ls.length && vld x.md && rnamed x.fs && allB (rlGood x.ls) x.ls.length
theorem three (b : Bool) (n : Nat) : b = true ∨ (b = false ∧ n = 0) ∨ (b = false ∧ ∃ k, n = k + 1) := by
  cases b
  · rcases n with _ | n
    · exact .inr (.inl ⟨rfl, rfl⟩)
    · exact .inr (.inr ⟨rfl, n, rfl⟩)
  · exact .inl rfl
theorem keepH5 {p1 p2 p3 p4 : Addr} {a b c d : Value} {w W W' : World} {B : Nat} (h : W.cell? p1 = some a ∧ W.cell? p2 = some b ∧ W.cell? p3 = some c ∧ W.cell? p4 = some d ∧ Below B w W ∧ B ≤ W.heap.size) (hb : Below W.heap.size W W') : W'.cell? p1 = some a ∧ W'.cell? p2 = some b ∧ W'.cell? p3 = some c ∧ W'.cell? p4 = some d ∧ Below B w W' ∧ B ≤ W'.heap.size :=
  ⟨pw_cell_below hb h.1, pw_cell_below hb h.2.1, pw_cell_below hb h.2.2.1, pw_cell_below hb h.2.2.2.1, h.2.2.2.2.1.trans (hb.mono h.2.2.2.2.2), Nat.le_trans h.2.2.2.2.2 hb.size⟩
set_option maxRecDepth 100000 in
set_option maxHeartbeats 8000000 in
theorem rright_walk (x : rNs) (A : Option Addr) (c : Nat) (B : Option Addr) (d : Nat) (w : World) (hx : x.at A c B d w) (hs : x.small) :
    Calls Tryd.prog 8 #[.agg #[.bool x.hm, .bool x.hf, .bool x.hl, .string x.md, .slice A x.fs.length c, .slice B x.ls.length d]] w fun e w' => e = .returned (.bool (rrightB x)) ∧ Below w.heap.size w w' := by
  have hu := Tryd.underlying25
  have hu2 := Tryd.underlying103
  have HN := hid (fun W (h : Below w.heap.size w W) => rlist_walk A c x.fs W (hx.below h).1 hs.2.1 hs.2.2.2.1)
  have HV := hid (fun W => rtext_walk x.md W (by have := hs.1; omega))
  have XL := hid hx.2.2.1
  have UL := hid hs.2.2.2.2
  have h1 := hs.2.1
  have h2 := hs.2.2.1
  clear hx hs
  obtain ⟨b1, b2, b3, m, f, l⟩ := x
  dsimp only at HN HV h1 h2 XL UL ⊢
  have HS : Hid (rrightB ⟨b1, b2, b3, m, f, l⟩ = (thereB b1 b2 b3 m f.length l.length && vld m && rnamed f && allB (rlGood l) l.length)) := rfl
  obtain ⟨nf, hnf⟩ : ∃ n, f.length = n := ⟨_, rfl⟩
  obtain ⟨nl, hnl⟩ : ∃ n, l.length = n := ⟨_, rfl⟩
  rw [hnf] at HN HS h1 ⊢
  rw [hnl] at HS h2 XL ⊢
  have HNL := hid hnl
  obtain ⟨bv, hbv⟩ : ∃ b, vld m = b := ⟨_, rfl⟩
  obtain ⟨bn, hbn⟩ : ∃ b, rnamed f = b := ⟨_, rfl⟩
  rw [hbv] at HV HS
  rw [hbn] at HN HS
  clear hbv hbn hnf hnl
  go_enter Tryd.func8, Tryd.ntmps8
  go_upto_region 1 with (fail)
  obtain ⟨w0, hw0⟩ : ∃ w0, w0 = w.alloc (.cells #[.bool b1, .bool b2, .bool b3, .string m, .slice A nf c, .slice B nl d] 25) := ⟨_, rfl⟩
  have KN := hid (show rBoxN w.heap.size b1 b2 b3 m (.slice A nf c) (.slice B nl d) w0 by rw [hw0]; exact rBoxN.new _ _ _ _ _ _ _ _)
  have KB := hid (show Below w.heap.size w w0 by rw [hw0]; exact below_alloc (Below.refl _ _) _)
  have kz : w.heap.size < w0.heap.size := by rw [hw0]; simp
  rw [← hw0]
  clear hw0
  go_cut [45] (fun s45 wx => s45 = .bool (!(thereB b1 b2 b3 m nf nl && bv && bn)) ∧ Hid (Below w0.heap.size w0 wx))
  case first =>
    have HT : Hid (thereB b1 b2 b3 m nf nl = ((b1 || m.toList.isEmpty) && (b2 || decide (nf = 0)) && (b3 || decide (nl = 0)))) := rfl
    obtain ⟨c0, c1, c2, c3, c4, c5⟩ := KN.out
    clear HS XL UL KN HNL
    have HV0 := hid (HV.out w0)
    have HN0 := hid (fun W (h : Below w0.heap.size w0 W) => HN.out W (KB.out.trans (h.mono KB.out.size)))
    clear HV HN
    rcases three b2 nf with rfl | ⟨rfl, rfl⟩ | ⟨rfl, nf, rfl⟩ <;> rcases three b3 nl with rfl | ⟨rfl, rfl⟩ | ⟨rfl, nl, rfl⟩ <;> cases b1 <;>
      (go_wp2_with (first | (go_at_call 58; (with_reducible refine HV0.out.mono ?_); rintro e w2 ⟨rfl, hb1⟩; have q4 := pw_cell_below hb1 c4) | (go_at_call 59; (with_reducible refine (HN0.out _ hb1).mono ?_); rintro e w3 ⟨rfl, hb2⟩))
       all_goals (go_meet; refine ⟨?_, ?_⟩; (· rw [HT.out]; first | (simp [*]; done) | (simp [*]; omega)); (· first | exact hid (hb1.trans (hb2.mono hb1.size)) | exact hid hb1 | exact Below.refl _ _)))
  case rest =>
    obtain ⟨rfl, HX⟩ := hcut
    have KN2 := hid (KN.out.below HX.out)
    have KB2 := hid (KB.out.trans (HX.out.mono KB.out.size))
    have kz2 : w.heap.size < wc.heap.size := Nat.lt_of_lt_of_le kz HX.out.size
    clear KN KB kz HX HV HN
    rcases hq : (thereB b1 b2 b3 m nf nl && bv && bn) with _ | _
    · rw [hq, Bool.false_and] at HS
      clear hq
      go_wp2
      go_ret
      exact ⟨ret_bool HS.out.symm, KB2.out⟩
    · rw [hq, Bool.true_and] at HS
      clear hq
      have k5 := KN2.out.2.2.2.2.2
      go_upto_region 4 with (fail)
      go_loopw [3] (fun v3 wr => ∃ i : Nat, v3 = .int .i64 i ∧ i ≤ nl ∧ Hid (allB (rlGood l) i = true) ∧ Hid (rBoxN w.heap.size b1 b2 b3 m (.slice A nf c) (.slice B nl d) wr) ∧ w.heap.size < wr.heap.size ∧ Hid (Below w.heap.size w wr)) (fun v3 _ => nl - (intOf v3).toNat)
      case atStart => exact ⟨0, by go_num, by omega, hid rfl, KN2, kz2, KB2⟩
      case round =>
        obtain ⟨i, rfl, hi1, HA, KN, hz, HB⟩ := hrel
        clear KN2 KB2 kz2 k5
        have k5 := KN.out.2.2.2.2.2
        by_cases hlt : i < nl
        · have hcr := Kd.C_below XL.out HB.out
          have hll : i < l.length := by rw [HNL.out]; exact hlt
          obtain ⟨ad, A1, c1, rfl, e1, e2, l1, g1⟩ := at_T103 hcr (i : Int) (by omega) (by omega)
          rw [Int.toNat_natCast] at e1 e2
          have hgi := rd_rLocal l i hll
          obtain ⟨u2, u3⟩ : rU32s (rd_T103 l i).f1 ∧ (rd_T103 l i).f1.length ≤ 1000000 := by rw [hgi]; exact (UL.out _ (List.getElem_mem hll)).2.2
          have HT := hid (fun W (h : Below wr.heap.size wr W) => rlist_walk A1 c1 (rd_T103 l i).f1 W (Kd.C_below g1 h) u3 u2)
          have hi3 : (i : Int) < (nl : Int) := by omega
          clear hgi u2 g1
          rcases hv : rnamed (rd_T103 l i).f1 with _ | _
          · rw [hv] at HT
            have HV := hid (show allB (rlGood l) nl = false from allB_not hlt (by rw [rlGood, hv]; rfl))
            clear hv hcr
            have S0 : wr.cell? ⟨w.heap.size, 5, none⟩ = some (.slice (some ad) nl d) ∧ wr.cell? (ad.add (i * 2)) = some (.int .u32 (rd_T103 l i).f0) ∧ wr.cell? ⟨(ad.add (i * 2)).block, (ad.add (i * 2)).off + 1, none⟩ = some (.slice A1 (rd_T103 l i).f1.length c1) ∧ Below wr.heap.size wr wr ∧ wr.heap.size ≤ wr.heap.size := ⟨k5, e1, e2, Below.refl _ _, Nat.le_refl _⟩
            go_upto_region 6 with (fail)
            clear k5 e1 e2
            go_cut [80] (fun s80 wx => s80 = .bool true ∧ Hid (rBoxN w.heap.size b1 b2 b3 m (.slice A nf c) (.slice (some ad) nl d) wx) ∧ w.heap.size < wx.heap.size ∧ Hid (Below w.heap.size w wx))
            case first =>
              refine wp_region_noPanic ?_
              refine wp_region_held_drew (S := (fun W => W.cell? ⟨w.heap.size, 5, none⟩ = some (.slice (some ad) nl d) ∧ W.cell? (ad.add (i * 2)) = some (.int .u32 (rd_T103 l i).f0) ∧ W.cell? ⟨(ad.add (i * 2)).block, (ad.add (i * 2)).off + 1, none⟩ = some (.slice A1 (rd_T103 l i).f1.length c1) ∧ Below wr.heap.size wr W ∧ wr.heap.size ≤ W.heap.size)) (by kernel_rfl) ?hSa1 (fun hHeld => ?goa1)
              case hSa1 => first | exact S0 | assumption | exact keepH4 (by assumption) (by assumption) | exact keepH4 S0 (below_drew (Below.refl _ _))
              refine tk 0 ⟨some 53, .fieldAddr 25 (.tmp 1) 5, 0, "ref.go:52", #[], none⟩ rfl ?_
              refine tk 1 ⟨some 54, .load 23 (.tmp 53), 23, "ref.go:52", #[⟨0, .data⟩], none⟩ rfl ?_
              refine tk 2 ⟨some 55, .move (.tmp 3), 3, "ref.go:52", #[], none⟩ rfl ?_
              refine tk 3 ⟨some 56, .indexAddr 23 (.tmp 54) (.tmp 55), 0, "ref.go:52", #[⟨1, .data⟩, ⟨2, .data⟩], none⟩ rfl ?_
              refine tk 4 ⟨some 57, .fieldAddr 103 (.tmp 56) 1, 0, "ref.go:52", #[⟨3, .data⟩], none⟩ rfl ?_
              refine tk 5 ⟨some 58, .load 22 (.tmp 57), 22, "ref.go:52", #[⟨4, .data⟩], none⟩ rfl ?_
              refine wpAnyH_ready (rs := [6]) (by kernel_rfl) (by simp) ?_
              refine AllReadyH.cons (o := ⟨some 59, .call { callee := .value (.func 59), args := #[.tmp 58], argTypes := #[22] }, 4, "ref.go:52", #[⟨5, .data⟩], none⟩) rfl (fun K hK => ?_) AllReadyH.nil
              go_simp
              go_at_call 59; (with_reducible refine (HT.out _ (‹_ ∧ _ ∧ _ ∧ Below wr.heap.size wr _ ∧ _›).2.2.2.1).mono ?_); rintro e w' ⟨rfl, hb1⟩
              refine hK.out _ _ ?_ (fun hHeld => ?_)
              · (try dsimp only); first | exact S0 | assumption | exact keepH4 (by assumption) (by assumption) | exact keepH4 S0 (below_drew (Below.refl _ _))
              clear hK K
              try simp only [Act.put, List.setIfInBounds_toArray, List.set_cons_zero, List.set_cons_succ]
              refine tk 7 ⟨some 60, .unOp .not 4 (.tmp 59), 4, "ref.go:52", #[⟨6, .data⟩], none⟩ rfl ?_
              refine tk 8 ⟨some 61, .move (.tmp 60), 4, "ref.go:52", #[⟨7, .data⟩, ⟨6, .chain⟩], none⟩ rfl ?_
              refine tkn 9 ⟨some 62, .move (.tmp 3), 3, "ref.go:52", #[⟨8, .guard⟩], some (8, false)⟩ rfl ?_
              refine tkn 10 ⟨some 63, .binOp .gtr 3 (.tmp 62) (.const (.int .i64 0)) 3, 4, "ref.go:52", #[⟨9, .data⟩, ⟨8, .guard⟩], some (8, false)⟩ rfl ?_
              refine tkn 11 ⟨some 64, .move (.tmp 63), 4, "ref.go:52", #[⟨10, .data⟩, ⟨8, .chain⟩, ⟨8, .guard⟩], some (8, false)⟩ rfl ?_
              refine tkn 12 ⟨some 65, .fieldAddr 25 (.tmp 1) 5, 0, "ref.go:52", #[⟨11, .guard⟩], some (11, true)⟩ rfl ?_
              refine tkn 13 ⟨some 66, .load 23 (.tmp 65), 23, "ref.go:52", #[⟨12, .data⟩, ⟨11, .guard⟩], some (11, true)⟩ rfl ?_
              refine tkn 14 ⟨some 67, .move (.tmp 3), 3, "ref.go:52", #[⟨11, .guard⟩], some (11, true)⟩ rfl ?_
              refine tkn 15 ⟨some 68, .indexAddr 23 (.tmp 66) (.tmp 67), 0, "ref.go:52", #[⟨13, .data⟩, ⟨14, .data⟩, ⟨11, .guard⟩], some (11, true)⟩ rfl ?_
              refine tkn 16 ⟨some 69, .fieldAddr 103 (.tmp 68) 0, 0, "ref.go:52", #[⟨15, .data⟩, ⟨11, .guard⟩], some (11, true)⟩ rfl ?_
              refine tkn 17 ⟨some 70, .load 45 (.tmp 69), 45, "ref.go:52", #[⟨16, .data⟩, ⟨11, .guard⟩], some (11, true)⟩ rfl ?_
              refine tkn 18 ⟨some 71, .fieldAddr 25 (.tmp 1) 5, 0, "ref.go:52", #[⟨11, .guard⟩], some (11, true)⟩ rfl ?_
              refine tkn 19 ⟨some 72, .load 23 (.tmp 71), 23, "ref.go:52", #[⟨18, .data⟩, ⟨11, .guard⟩], some (11, true)⟩ rfl ?_
              refine tkn 20 ⟨some 73, .move (.tmp 3), 3, "ref.go:52", #[⟨11, .guard⟩], some (11, true)⟩ rfl ?_
              refine tkn 21 ⟨some 74, .binOp .sub 3 (.tmp 73) (.const (.int .i64 1)) 3, 3, "ref.go:52", #[⟨20, .data⟩, ⟨11, .guard⟩], some (11, true)⟩ rfl ?_
              refine tkn 22 ⟨some 75, .indexAddr 23 (.tmp 72) (.tmp 74), 0, "ref.go:52", #[⟨19, .data⟩, ⟨21, .data⟩, ⟨11, .guard⟩], some (11, true)⟩ rfl ?_
              refine tkn 23 ⟨some 76, .fieldAddr 103 (.tmp 75) 0, 0, "ref.go:52", #[⟨22, .data⟩, ⟨11, .guard⟩], some (11, true)⟩ rfl ?_
              refine tkn 24 ⟨some 77, .load 45 (.tmp 76), 45, "ref.go:52", #[⟨23, .data⟩, ⟨11, .guard⟩], some (11, true)⟩ rfl ?_
              refine tkn 25 ⟨some 78, .binOp .leq 45 (.tmp 70) (.tmp 77) 45, 4, "ref.go:52", #[⟨17, .data⟩, ⟨24, .data⟩, ⟨11, .guard⟩], some (11, true)⟩ rfl ?_
              refine tkn 26 ⟨some 79, .pick (.tmp 64) (.tmp 78) (.const (.bool false)), 4, "ref.go:52", #[⟨11, .data⟩, ⟨25, .data⟩, ⟨8, .guard⟩], some (8, false)⟩ rfl ?_
              refine tk 27 ⟨some 80, .pick (.tmp 61) (.const (.bool true)) (.tmp 79), 4, "ref.go:52", #[⟨8, .data⟩, ⟨26, .data⟩], none⟩ rfl ?_
              refine wpAnyH_done (by kernel_rfl) ?_ _
              refine NoPanic.normal ?_
              go_wp2_with fail
              go_meet
              exact ⟨rfl, hid (KN.out.below hHeld.2.2.2.1), by have := hHeld.2.2.2.2; omega, hid (HB.out.trans (hHeld.2.2.2.1.mono HB.out.size))⟩
            case rest =>
              obtain ⟨rfl, _, _, HX⟩ := hcut
              go_wp2
              go_ret
              exact ⟨ret_bool (by rw [HS.out, HV.out]), HX.out⟩
          · rw [hv] at HT
            rcases i with _ | j
            · have HV := hid (show allB (rlGood l) (0 + 1) = true from by rw [allB, HA.out, Bool.true_and]; show (rnamed (rd_T103 l ((0 : Nat) : Int)).f1 && upB (rlIdx l) 0) = true; rw [hv]; rfl)
              have ea : ad.add (0 * 2) = ad := add_nought ad
              rw [ea, show (((0 : Nat) : Int)) = 0 from rfl] at e1 e2
              rw [show (((0 : Nat) : Int)) = 0 from rfl] at HT
              clear hv hcr ea
              have S0 : wr.cell? ⟨w.heap.size, 5, none⟩ = some (.slice (some ad) nl d) ∧ wr.cell? ad = some (.int .u32 (rd_T103 l 0).f0) ∧ wr.cell? ⟨ad.block, ad.off + 1, none⟩ = some (.slice A1 (rd_T103 l 0).f1.length c1) ∧ Below wr.heap.size wr wr ∧ wr.heap.size ≤ wr.heap.size := ⟨k5, e1, e2, Below.refl _ _, Nat.le_refl _⟩
              go_upto_region 6 with (fail)
              clear k5 e1 e2
              go_cut [80] (fun s80 wx => s80 = .bool false ∧ Hid (rBoxN w.heap.size b1 b2 b3 m (.slice A nf c) (.slice (some ad) nl d) wx) ∧ w.heap.size < wx.heap.size ∧ Hid (Below w.heap.size w wx))
              case first =>
                refine wp_region_noPanic ?_
                refine wp_region_held_drew (S := (fun W => W.cell? ⟨w.heap.size, 5, none⟩ = some (.slice (some ad) nl d) ∧ W.cell? ad = some (.int .u32 (rd_T103 l 0).f0) ∧ W.cell? ⟨ad.block, ad.off + 1, none⟩ = some (.slice A1 (rd_T103 l 0).f1.length c1) ∧ Below wr.heap.size wr W ∧ wr.heap.size ≤ W.heap.size)) (by kernel_rfl) ?hSb1 (fun hHeld => ?gob1)
                case hSb1 => first | exact S0 | assumption | exact keepH4 (by assumption) (by assumption) | exact keepH4 S0 (below_drew (Below.refl _ _))
                refine tk 0 ⟨some 53, .fieldAddr 25 (.tmp 1) 5, 0, "ref.go:52", #[], none⟩ rfl ?_
                refine tk 1 ⟨some 54, .load 23 (.tmp 53), 23, "ref.go:52", #[⟨0, .data⟩], none⟩ rfl ?_
                refine tk 2 ⟨some 55, .move (.tmp 3), 3, "ref.go:52", #[], none⟩ rfl ?_
                refine tk 3 ⟨some 56, .indexAddr 23 (.tmp 54) (.tmp 55), 0, "ref.go:52", #[⟨1, .data⟩, ⟨2, .data⟩], none⟩ rfl ?_
                refine tk 4 ⟨some 57, .fieldAddr 103 (.tmp 56) 1, 0, "ref.go:52", #[⟨3, .data⟩], none⟩ rfl ?_
                refine tk 5 ⟨some 58, .load 22 (.tmp 57), 22, "ref.go:52", #[⟨4, .data⟩], none⟩ rfl ?_
                refine wpAnyH_ready (rs := [6]) (by kernel_rfl) (by simp) ?_
                refine AllReadyH.cons (o := ⟨some 59, .call { callee := .value (.func 59), args := #[.tmp 58], argTypes := #[22] }, 4, "ref.go:52", #[⟨5, .data⟩], none⟩) rfl (fun K hK => ?_) AllReadyH.nil
                go_simp
                go_at_call 59; (with_reducible refine (HT.out _ (‹_ ∧ _ ∧ _ ∧ Below wr.heap.size wr _ ∧ _›).2.2.2.1).mono ?_); rintro e w' ⟨rfl, hb1⟩
                refine hK.out _ _ ?_ (fun hHeld => ?_)
                · (try dsimp only); first | exact S0 | assumption | exact keepH4 (by assumption) (by assumption) | exact keepH4 S0 (below_drew (Below.refl _ _))
                clear hK K
                try simp only [Act.put, List.setIfInBounds_toArray, List.set_cons_zero, List.set_cons_succ]
                refine tk 7 ⟨some 60, .unOp .not 4 (.tmp 59), 4, "ref.go:52", #[⟨6, .data⟩], none⟩ rfl ?_
                refine tk 8 ⟨some 61, .move (.tmp 60), 4, "ref.go:52", #[⟨7, .data⟩, ⟨6, .chain⟩], none⟩ rfl ?_
                refine tk 9 ⟨some 62, .move (.tmp 3), 3, "ref.go:52", #[⟨8, .guard⟩], some (8, false)⟩ rfl ?_
                refine tk 10 ⟨some 63, .binOp .gtr 3 (.tmp 62) (.const (.int .i64 0)) 3, 4, "ref.go:52", #[⟨9, .data⟩, ⟨8, .guard⟩], some (8, false)⟩ rfl ?_
                refine tk 11 ⟨some 64, .move (.tmp 63), 4, "ref.go:52", #[⟨10, .data⟩, ⟨8, .chain⟩, ⟨8, .guard⟩], some (8, false)⟩ rfl ?_
                refine tkn 12 ⟨some 65, .fieldAddr 25 (.tmp 1) 5, 0, "ref.go:52", #[⟨11, .guard⟩], some (11, true)⟩ rfl ?_
                refine tkn 13 ⟨some 66, .load 23 (.tmp 65), 23, "ref.go:52", #[⟨12, .data⟩, ⟨11, .guard⟩], some (11, true)⟩ rfl ?_
                refine tkn 14 ⟨some 67, .move (.tmp 3), 3, "ref.go:52", #[⟨11, .guard⟩], some (11, true)⟩ rfl ?_
                refine tkn 15 ⟨some 68, .indexAddr 23 (.tmp 66) (.tmp 67), 0, "ref.go:52", #[⟨13, .data⟩, ⟨14, .data⟩, ⟨11, .guard⟩], some (11, true)⟩ rfl ?_
                refine tkn 16 ⟨some 69, .fieldAddr 103 (.tmp 68) 0, 0, "ref.go:52", #[⟨15, .data⟩, ⟨11, .guard⟩], some (11, true)⟩ rfl ?_
                refine tkn 17 ⟨some 70, .load 45 (.tmp 69), 45, "ref.go:52", #[⟨16, .data⟩, ⟨11, .guard⟩], some (11, true)⟩ rfl ?_
                refine tkn 18 ⟨some 71, .fieldAddr 25 (.tmp 1) 5, 0, "ref.go:52", #[⟨11, .guard⟩], some (11, true)⟩ rfl ?_
                refine tkn 19 ⟨some 72, .load 23 (.tmp 71), 23, "ref.go:52", #[⟨18, .data⟩, ⟨11, .guard⟩], some (11, true)⟩ rfl ?_
                refine tkn 20 ⟨some 73, .move (.tmp 3), 3, "ref.go:52", #[⟨11, .guard⟩], some (11, true)⟩ rfl ?_
                refine tkn 21 ⟨some 74, .binOp .sub 3 (.tmp 73) (.const (.int .i64 1)) 3, 3, "ref.go:52", #[⟨20, .data⟩, ⟨11, .guard⟩], some (11, true)⟩ rfl ?_
                refine tkn 22 ⟨some 75, .indexAddr 23 (.tmp 72) (.tmp 74), 0, "ref.go:52", #[⟨19, .data⟩, ⟨21, .data⟩, ⟨11, .guard⟩], some (11, true)⟩ rfl ?_
                refine tkn 23 ⟨some 76, .fieldAddr 103 (.tmp 75) 0, 0, "ref.go:52", #[⟨22, .data⟩, ⟨11, .guard⟩], some (11, true)⟩ rfl ?_
                refine tkn 24 ⟨some 77, .load 45 (.tmp 76), 45, "ref.go:52", #[⟨23, .data⟩, ⟨11, .guard⟩], some (11, true)⟩ rfl ?_
                refine tkn 25 ⟨some 78, .binOp .leq 45 (.tmp 70) (.tmp 77) 45, 4, "ref.go:52", #[⟨17, .data⟩, ⟨24, .data⟩, ⟨11, .guard⟩], some (11, true)⟩ rfl ?_
                refine tk 26 ⟨some 79, .pick (.tmp 64) (.tmp 78) (.const (.bool false)), 4, "ref.go:52", #[⟨11, .data⟩, ⟨25, .data⟩, ⟨8, .guard⟩], some (8, false)⟩ rfl ?_
                refine tk 27 ⟨some 80, .pick (.tmp 61) (.const (.bool true)) (.tmp 79), 4, "ref.go:52", #[⟨8, .data⟩, ⟨26, .data⟩], none⟩ rfl ?_
                refine wpAnyH_done (by kernel_rfl) ?_ _
                refine NoPanic.normal ?_
                go_wp2_with fail
                go_meet
                exact ⟨rfl, hid (KN.out.below hHeld.2.2.2.1), by have := hHeld.2.2.2.2; omega, hid (HB.out.trans (hHeld.2.2.2.1.mono HB.out.size))⟩
              case rest =>
                obtain ⟨rfl, KX, hsx, HX⟩ := hcut
                go_wp2
                go_roundw
                case rel => exact ⟨0 + 1, by go_num, by omega, HV, KX, hsx, HX⟩
                case measure => simp [intOf]; omega
            · obtain ⟨ad', A2, c2, he, e3, e4, l2, g2⟩ := at_T103 hcr (j : Int) (by omega) (by omega)
              obtain rfl := Option.some.inj he
              rw [Int.toNat_natCast] at e3 e4
              rw [show (((j + 1 : Nat) : Int)) = (j : Int) + 1 by omega] at e1 e2 HT l1
              have hi4 : (j : Int) < (nl : Int) := by omega
              have hi5 : (0 : Int) ≤ (j : Int) + 1 := by omega
              have hi6 : (j : Int) + 1 < (nl : Int) := by omega
              have hi7 : (0 : Int) < (j : Int) + 1 := by omega
              have hw1 : IntKind.i64.wrap ((j : Int) + 1 - 1) = (j : Int) := by rw [IntKind.wrap_i64]; omega
              have hw2 : IntKind.i64.wrap (j : Int) = (j : Int) := by rw [IntKind.wrap_i64]; omega
              have HG := hid (show rlGood l (j + 1) = decide ((rd_T103 l (j : Int)).f0 < (rd_T103 l ((j : Int) + 1)).f0) from by rw [rlGood, hv, Bool.true_and, rlIdx_up])
              clear hv hcr he g2
              have S0 : wr.cell? ⟨w.heap.size, 5, none⟩ = some (.slice (some ad) nl d) ∧ wr.cell? (ad.add ((j + 1) * 2)) = some (.int .u32 (rd_T103 l (j + 1)).f0) ∧ wr.cell? ⟨(ad.add ((j + 1) * 2)).block, (ad.add ((j + 1) * 2)).off + 1, none⟩ = some (.slice A1 (rd_T103 l (j + 1)).f1.length c1) ∧ wr.cell? (ad.add (j * 2)) = some (.int .u32 (rd_T103 l j).f0) ∧ Below wr.heap.size wr wr ∧ wr.heap.size ≤ wr.heap.size := ⟨k5, e1, e2, e3, Below.refl _ _, Nat.le_refl _⟩
              go_upto_region 6 with (fail)
              clear k5 e1 e2 e3 e4
              go_cut [80] (fun s80 wx => s80 = .bool (decide ((rd_T103 l (j + 1)).f0 ≤ (rd_T103 l j).f0)) ∧ Hid (rBoxN w.heap.size b1 b2 b3 m (.slice A nf c) (.slice (some ad) nl d) wx) ∧ w.heap.size < wx.heap.size ∧ Hid (Below w.heap.size w wx))
              case first =>
                refine wp_region_noPanic ?_
                refine wp_region_held_drew (S := (fun W => W.cell? ⟨w.heap.size, 5, none⟩ = some (.slice (some ad) nl d) ∧ W.cell? (ad.add ((j + 1) * 2)) = some (.int .u32 (rd_T103 l (j + 1)).f0) ∧ W.cell? ⟨(ad.add ((j + 1) * 2)).block, (ad.add ((j + 1) * 2)).off + 1, none⟩ = some (.slice A1 (rd_T103 l (j + 1)).f1.length c1) ∧ W.cell? (ad.add (j * 2)) = some (.int .u32 (rd_T103 l j).f0) ∧ Below wr.heap.size wr W ∧ wr.heap.size ≤ W.heap.size)) (by kernel_rfl) ?hSc1 (fun hHeld => ?goc1)
                case hSc1 => first | exact S0 | assumption | exact keepH5 (by assumption) (by assumption) | exact keepH5 S0 (below_drew (Below.refl _ _))
                refine tk 0 ⟨some 53, .fieldAddr 25 (.tmp 1) 5, 0, "ref.go:52", #[], none⟩ rfl ?_
                refine tk 1 ⟨some 54, .load 23 (.tmp 53), 23, "ref.go:52", #[⟨0, .data⟩], none⟩ rfl ?_
                refine tk 2 ⟨some 55, .move (.tmp 3), 3, "ref.go:52", #[], none⟩ rfl ?_
                refine tk 3 ⟨some 56, .indexAddr 23 (.tmp 54) (.tmp 55), 0, "ref.go:52", #[⟨1, .data⟩, ⟨2, .data⟩], none⟩ rfl ?_
                refine tk 4 ⟨some 57, .fieldAddr 103 (.tmp 56) 1, 0, "ref.go:52", #[⟨3, .data⟩], none⟩ rfl ?_
                refine tk 5 ⟨some 58, .load 22 (.tmp 57), 22, "ref.go:52", #[⟨4, .data⟩], none⟩ rfl ?_
                refine wpAnyH_ready (rs := [6]) (by kernel_rfl) (by simp) ?_
                refine AllReadyH.cons (o := ⟨some 59, .call { callee := .value (.func 59), args := #[.tmp 58], argTypes := #[22] }, 4, "ref.go:52", #[⟨5, .data⟩], none⟩) rfl (fun K hK => ?_) AllReadyH.nil
                go_simp
                go_at_call 59; (with_reducible refine (HT.out _ (‹_ ∧ _ ∧ _ ∧ _ ∧ Below wr.heap.size wr _ ∧ _›).2.2.2.2.1).mono ?_); rintro e w' ⟨rfl, hb1⟩
                refine hK.out _ _ ?_ (fun hHeld => ?_)
                · (try dsimp only); first | exact S0 | assumption | exact keepH5 (by assumption) (by assumption) | exact keepH5 S0 (below_drew (Below.refl _ _))
                clear hK K
                try simp only [Act.put, List.setIfInBounds_toArray, List.set_cons_zero, List.set_cons_succ]
                refine tk 7 ⟨some 60, .unOp .not 4 (.tmp 59), 4, "ref.go:52", #[⟨6, .data⟩], none⟩ rfl ?_
                refine tk 8 ⟨some 61, .move (.tmp 60), 4, "ref.go:52", #[⟨7, .data⟩, ⟨6, .chain⟩], none⟩ rfl ?_
                refine tk 9 ⟨some 62, .move (.tmp 3), 3, "ref.go:52", #[⟨8, .guard⟩], some (8, false)⟩ rfl ?_
                refine tk 10 ⟨some 63, .binOp .gtr 3 (.tmp 62) (.const (.int .i64 0)) 3, 4, "ref.go:52", #[⟨9, .data⟩, ⟨8, .guard⟩], some (8, false)⟩ rfl ?_
                refine tk 11 ⟨some 64, .move (.tmp 63), 4, "ref.go:52", #[⟨10, .data⟩, ⟨8, .chain⟩, ⟨8, .guard⟩], some (8, false)⟩ rfl ?_
                refine tk 12 ⟨some 65, .fieldAddr 25 (.tmp 1) 5, 0, "ref.go:52", #[⟨11, .guard⟩], some (11, true)⟩ rfl ?_
                refine tk 13 ⟨some 66, .load 23 (.tmp 65), 23, "ref.go:52", #[⟨12, .data⟩, ⟨11, .guard⟩], some (11, true)⟩ rfl ?_
                refine tk 14 ⟨some 67, .move (.tmp 3), 3, "ref.go:52", #[⟨11, .guard⟩], some (11, true)⟩ rfl ?_
                refine tk 15 ⟨some 68, .indexAddr 23 (.tmp 66) (.tmp 67), 0, "ref.go:52", #[⟨13, .data⟩, ⟨14, .data⟩, ⟨11, .guard⟩], some (11, true)⟩ rfl ?_
                refine tk 16 ⟨some 69, .fieldAddr 103 (.tmp 68) 0, 0, "ref.go:52", #[⟨15, .data⟩, ⟨11, .guard⟩], some (11, true)⟩ rfl ?_
                refine tk 17 ⟨some 70, .load 45 (.tmp 69), 45, "ref.go:52", #[⟨16, .data⟩, ⟨11, .guard⟩], some (11, true)⟩ rfl ?_
                refine tk 18 ⟨some 71, .fieldAddr 25 (.tmp 1) 5, 0, "ref.go:52", #[⟨11, .guard⟩], some (11, true)⟩ rfl ?_
                refine tk 19 ⟨some 72, .load 23 (.tmp 71), 23, "ref.go:52", #[⟨18, .data⟩, ⟨11, .guard⟩], some (11, true)⟩ rfl ?_
                refine tk 20 ⟨some 73, .move (.tmp 3), 3, "ref.go:52", #[⟨11, .guard⟩], some (11, true)⟩ rfl ?_
                refine tk 21 ⟨some 74, .binOp .sub 3 (.tmp 73) (.const (.int .i64 1)) 3, 3, "ref.go:52", #[⟨20, .data⟩, ⟨11, .guard⟩], some (11, true)⟩ rfl ?_
                refine tk 22 ⟨some 75, .indexAddr 23 (.tmp 72) (.tmp 74), 0, "ref.go:52", #[⟨19, .data⟩, ⟨21, .data⟩, ⟨11, .guard⟩], some (11, true)⟩ rfl ?_
                refine tk 23 ⟨some 76, .fieldAddr 103 (.tmp 75) 0, 0, "ref.go:52", #[⟨22, .data⟩, ⟨11, .guard⟩], some (11, true)⟩ rfl ?_
                refine tk 24 ⟨some 77, .load 45 (.tmp 76), 45, "ref.go:52", #[⟨23, .data⟩, ⟨11, .guard⟩], some (11, true)⟩ rfl ?_
                refine tk 25 ⟨some 78, .binOp .leq 45 (.tmp 70) (.tmp 77) 45, 4, "ref.go:52", #[⟨17, .data⟩, ⟨24, .data⟩, ⟨11, .guard⟩], some (11, true)⟩ rfl ?_
                refine tk 26 ⟨some 79, .pick (.tmp 64) (.tmp 78) (.const (.bool false)), 4, "ref.go:52", #[⟨11, .data⟩, ⟨25, .data⟩, ⟨8, .guard⟩], some (8, false)⟩ rfl ?_
                refine tk 27 ⟨some 80, .pick (.tmp 61) (.const (.bool true)) (.tmp 79), 4, "ref.go:52", #[⟨8, .data⟩, ⟨26, .data⟩], none⟩ rfl ?_
                refine wpAnyH_done (by kernel_rfl) ?_ _
                refine NoPanic.normal ?_
                go_wp2_with fail
                go_meet
                exact ⟨rfl, hid (KN.out.below hHeld.2.2.2.2.1), by have := hHeld.2.2.2.2.2; omega, hid (HB.out.trans (hHeld.2.2.2.2.1.mono HB.out.size))⟩
              case rest =>
                obtain ⟨rfl, KX, hsx, HX⟩ := hcut
                by_cases hup : (rd_T103 l (j + 1)).f0 ≤ (rd_T103 l j).f0
                · have HP := hid hup
                  go_wp2
                  go_ret
                  refine ⟨ret_bool ?_, HX.out⟩
                  rw [HS.out]
                  have := allB_not (p := rlGood l) hlt (by rw [HG.out]; exact decide_eq_false (by have := HP.out; omega))
                  rw [this]
                · have HP := hid hup
                  have hup2 : (rd_T103 l j).f0 < (rd_T103 l (j + 1)).f0 := by omega
                  go_wp2
                  go_roundw
                  case rel => exact ⟨j + 2, by go_num, by omega, hid (by rw [allB, HA.out, Bool.true_and, HG.out]; exact decide_eq_true (by have := HP.out; omega)), KX, hsx, HX⟩
                  case measure => simp [intOf]; omega
        · obtain rfl : i = nl := by omega
          go_wp2
          go_ret
          exact ⟨ret_bool (by rw [HS.out, HA.out]), HB.out⟩
end Go.Proofs.YtiohiiekaofkbaaDoor
/- Names as they come in, opened. -/
namespace Go.Proofs.YtiohiiekaofkbaaDoor
set_option linter.unusedVariables false
set_option linter.unusedSimpArgs false
open Go.RowKit Go.Proofs.YtiohiiekaofkbaaDoor.PNamesBack Go.Proofs.YtiohiiekaofkbaaDoorW.PrintWords Go.ChangeShapes Go.WideShapes Go.Deep Go.Lib
def rNs.fine (x : rNs) : Prop := x.md.size ≤ 140737488351232 ∧ fineNs x.fs ∧ fineLs x.ls
theorem array6 {α : Type} {cs : Array α} (h : cs.size = 6) : ∃ c0 c1 c2 c3 c4 c5, cs = #[c0, c1, c2, c3, c4, c5] := by
  obtain ⟨l⟩ := cs
  match l, h with
  | [c0, c1, c2, c3, c4, c5], _ => exact ⟨c0, c1, c2, c3, c4, c5, rfl⟩
set_option maxRecDepth 100000 in
theorem open_rNames {H : Type} {enc : TypeId × Value → H} {W : World} {base b0 : Nat} {spare : Nat → Bool} {held : Bool} {r : Reach} {v : Value} {d : DataW H} {p : List MemPlace}
    (hv : Value.okWide Tryd.prog W r b0 25 v) (h : DataW.Trod enc Tryd.prog W base spare held 25 v d p) (hw : ∀ m ∈ d.weights Tryd.prog 25, m ≤ 140737488351232) :
    ∃ (x : rNs) (A : Option Addr) (c : Nat) (B : Option Addr) (e : Nat), v = .agg #[.bool x.hm, .bool x.hf, .bool x.hl, .string x.md, .slice A x.fs.length c, .slice B x.ls.length e] ∧ x.at A c B e W ∧ x.fine := by
  obtain ⟨cs, rfl, hsz⟩ := okWide_struct Tryd.underlying25 hv
  have hC : Tryd.prog.cellsOf 25 = 6 := by kernel_rfl
  obtain ⟨c0, c1, c2, c3, c4, c5, rfl⟩ := array6 (hsz.trans hC)
  obtain ⟨fuel, hf⟩ := h
  obtain ⟨xs, n, _, hx, _, hlen, hg⟩ := DataW.trod_struct Tryd.underlying25 hf
  match xs, hlen with
  | [y0, y1, y2, y3, y4, y5], _ =>
    simp only [Prod.mk.injEq] at hx
    obtain ⟨hd, _⟩ := hx
    subst hd
    have hw' : ∀ m ∈ DataW.weightsEach Tryd.prog [4, 4, 4, 9, 22, 23] [y0.1, y1.1, y2.1, y3.1, y4.1, y5.1], m ≤ 140737488351232 := fun m hm => hw m (by simpa [DataW.weights, Tryd.underlying25] using hm)
    have k4 : Tryd.prog.cellsOf 4 = 1 := by kernel_rfl
    have k9 : Tryd.prog.cellsOf 9 = 1 := by kernel_rfl
    have kN : Tryd.prog.cellsOf 22 = 1 := by kernel_rfl
    have kL : Tryd.prog.cellsOf 23 = 1 := by kernel_rfl
    have g0 := hg 0 _ rfl
    have g1 := hg 1 _ rfl
    have g2 := hg 2 _ rfl
    have g3 := hg 3 _ rfl
    have g4 := hg 4 _ rfl
    have g5 := hg 5 _ rfl
    simp [Value.cells, k4, k9, kN, kL] at g0 g1 g2 g3 g4 g5
    obtain ⟨b0', h0, _⟩ := opn_bool Tryd.underlying4 _ _ _ g0 (fun m hm => hw' m (weights_fst m hm))
    obtain ⟨b1', h1, _⟩ := opn_bool Tryd.underlying4 _ _ _ g1 (fun m hm => hw' m (weights_rest m (weights_fst m hm)))
    obtain ⟨b2', h2, _⟩ := opn_bool Tryd.underlying4 _ _ _ g2 (fun m hm => hw' m (weights_rest m (weights_rest m (weights_fst m hm))))
    obtain ⟨s, h3, f3⟩ := opn_string Tryd.underlying9 _ _ _ g3 (fun m hm => hw' m (weights_rest m (weights_rest m (weights_rest m (weights_fst m hm)))))
    obtain ⟨fs, ⟨A, c, h4, l4, r4⟩, f4⟩ := opn_rNames _ _ _ g4 (fun m hm => hw' m (weights_rest m (weights_rest m (weights_rest m (weights_rest m (weights_fst m hm))))))
    obtain ⟨ls, ⟨B, e, h5, l5, r5⟩, f5⟩ := opn_rLocals _ _ _ g5 (fun m hm => hw' m (weights_rest m (weights_rest m (weights_rest m (weights_rest m (weights_rest m (weights_fst m hm)))))))
    obtain rfl := List.cons.inj h0 |>.1
    obtain rfl := List.cons.inj h1 |>.1
    obtain rfl := List.cons.inj h2 |>.1
    obtain rfl := List.cons.inj h3 |>.1
    obtain rfl := List.cons.inj h4 |>.1
    obtain rfl := List.cons.inj h5 |>.1
    exact ⟨⟨b0', b1', b2', s, fs, ls⟩, A, c, B, e, rfl, ⟨r4, l4, r5, l5⟩, f3, f4, f5⟩
end Go.Proofs.YtiohiiekaofkbaaDoor
/- The bytes of names: names.Put. -/
namespace Go.Proofs.YtiohiiekaofkbaaDoor
set_option linter.unusedVariables false
set_option linter.unusedSimpArgs false
open Go.RowKit Go.Proofs.YtiohiiekaofkbaaDoor.PNamesBack Go.Proofs.YtiohiiekaofkbaaDoorW.PrintWords
theorem own_rw {w : World} {base : Nat} {ok : Nat → Prop} {v : Value} {l : List Int} (h : Rw w base ok v l) : Own w base v l := Kd.own_of_R h
theorem rw_own {w : World} {base : Nat} {ok : Nat → Prop} {v : Value} {l : List Int} (h : Own w base v l) (hok : ∀ k, v.ownBlock = some k → ok k) : Rw w base ok v l := Kd.R_of_own (h1 := fun _ => rfl) h hok
def Mine (v : Value) : Nat → Prop := fun k => v.ownBlock = some k
def PO (w0 w : World) (v : Value) (l : List Int) (e : Ending) (w' : World) : Prop := ∃ v', e = .returned v' ∧ Own w' w0.heap.size v' l ∧ Below w0.heap.size w0 w' ∧ Kept w w' (Mine v) ∧ (∀ k, v'.ownBlock = some k → v.ownBlock = some k ∨ w.heap.size ≤ k)
theorem po_of {w0 w : World} {v : Value} {l : List Int} {e : Ending} {w' : World} (h : PK w0 w (Mine v) l e w') : PO w0 w v l e w' := by
  obtain ⟨v', h1, h2, h3, h4⟩ := h
  exact ⟨v', h1, own_rw h2, h3, h4, fun k hk => h2.1 k hk⟩
theorem putU_own (v : Value) (l : List Int) (x : Int) (w0 w : World) (hB : Below w0.heap.size w0 w) (ho : Own w w0.heap.size v l) (h0 : 0 ≤ x) (h : x ≤ 18446744073709551615) (hl : l.length ≤ 900000000) :
    Calls Tryd.prog 63 #[v, .int .u64 x] w (PO w0 w v (l ++ uL x)) := (putU_kept (Mine v) v l x w0 w hB (rw_own ho fun _ hk => hk) h0 h hl).mono fun _ _ => po_of
theorem putText_own (v : Value) (l : List Int) (s : ByteArray) (w0 w : World) (hB : Below w0.heap.size w0 w) (ho : Own w w0.heap.size v l) (hs : s.size ≤ 1000000000) (hl : l.length ≤ 900000000) :
    Calls Tryd.prog 65 #[v, .string s] w (PO w0 w v (l ++ txt s)) := (putText_kept (Mine v) v l s w0 w hB (rw_own ho fun _ hk => hk) hs hl).mono fun _ _ => po_of
theorem list_own (v : Value) (b : List Int) (A : Option Addr) (c : Nat) (l : List S121) (w0 w : World) (hB : Below w0.heap.size w0 w) (ho : Own w w0.heap.size v b) (hC : Kd.C k121 w0 A l.length l) (hc : l.length ≤ c) (hU : U32s l) (hb : b.length + (nlB l).length ≤ 800000000) (hl : l.length ≤ 1000000000) :
    Calls Tryd.prog 64 #[v, .slice A l.length c] w (PO w0 w v (b ++ nlB l)) :=
  (list_kept (Mine v) v b A c l w0 w hB (rw_own ho fun _ hk => hk) (Kd.C_kept_came (Kd.heap_iso _ (Kd.heap_pair (Kd.heap_int _) Kd.heap_string)) hC hB (fun k hk => (ho.lt k hk).1)) hc hU hb hl).mono fun _ _ => po_of
theorem own_nil' (W : World) (base : Nat) : Own W base (.slice none 0 0) [] := ⟨by simp [bv], .inl ⟨rfl, rfl⟩⟩
theorem own_below {w w' : World} {base : Nat} {v : Value} {l : List Int} (h : Own w base v l) (hb : Below w.heap.size w w') : Own w' base v l := pw_own_below h hb
def loB (x : S109) : List Int := uL x.f0 ++ nlB x.f1
def losB (l : List S109) : List Int := l.flatMap loB
def llB (l : List S109) : List Int := uL l.length ++ losB l
def sec (i : Int) (b : List Int) : List Int := i :: (uL b.length ++ b)
def putB (x : Ns) : List Int := (if x.hm then sec 0 (txt x.md) else []) ++ (if x.hf then sec 1 (nlB x.fs) else []) ++ (if x.hl then sec 2 (llB x.ls) else [])
def Ns.fit (x : Ns) : Prop := U32s x.fs ∧ (∀ y ∈ x.ls, 0 ≤ y.f0 ∧ y.f0 ≤ 4294967295 ∧ U32s y.f1) ∧ (txt x.md).length ≤ 100000000 ∧ (nlB x.fs).length ≤ 100000000 ∧ (llB x.ls).length ≤ 100000000
theorem rd_Local (l : List S109) (i : Nat) (h : i < l.length) : rd_T109 l i = l[i] := by
  simp [rd_T109, List.getD_eq_getElem?_getD, List.getElem?_eq_getElem h]
theorem losB_take (l : List S109) (i : Nat) (h : i < l.length) : losB (l.take (i + 1)) = losB (l.take i) ++ loB l[i] := by
  rw [List.take_succ_eq_append_getElem h]; unfold losB; rw [List.flatMap_append]; simp
theorem losB_le (l : List S109) (i : Nat) : (losB (l.take i)).length ≤ (losB l).length := by
  have e : losB l = losB (l.take i) ++ losB (l.drop i) := by unfold losB; rw [← List.flatMap_append, List.take_append_drop]
  rw [e, List.length_append]; omega
def BoxN (g : Nat) (b1 b2 b3 : Bool) (m : ByteArray) (vf vl : Value) (W : World) : Prop := W.cell? ⟨g, 0, none⟩ = some (.bool b1) ∧ W.cell? ⟨g, 1, none⟩ = some (.bool b2) ∧ W.cell? ⟨g, 2, none⟩ = some (.bool b3) ∧ W.cell? ⟨g, 3, none⟩ = some (.string m) ∧ W.cell? ⟨g, 4, none⟩ = some vf ∧ W.cell? ⟨g, 5, none⟩ = some vl
theorem BoxN.new (w : World) (b1 b2 b3 : Bool) (m : ByteArray) (vf vl : Value) (T : Nat) : BoxN w.heap.size b1 b2 b3 m vf vl (w.alloc (.cells #[.bool b1, .bool b2, .bool b3, .string m, vf, vl] T)) := by
  refine ⟨?_, ?_, ?_, ?_, ?_, ?_⟩ <;> simp [World.cell?_alloc_new]
theorem BoxN.kept {g : Nat} {b1 b2 b3 : Bool} {m : ByteArray} {vf vl : Value} {W W' : World} {S : Nat → Prop} (h : BoxN g b1 b2 b3 m vf vl W) (hk : Kept W W' S) (hS : ¬ S g) : BoxN g b1 b2 b3 m vf vl W' := by
  obtain ⟨h1, h2, h3, h4, h5, h6⟩ := h
  exact ⟨cell_kept h1 hk hS, cell_kept h2 hk hS, cell_kept h3 hk hS, cell_kept h4 hk hS, cell_kept h5 hk hS, cell_kept h6 hk hS⟩
theorem BoxN.below {g : Nat} {b1 b2 b3 : Bool} {m : ByteArray} {vf vl : Value} {W W' : World} (h : BoxN g b1 b2 b3 m vf vl W) (hb : Below W.heap.size W W') : BoxN g b1 b2 b3 m vf vl W' := h.kept (Kept.of_below hb (fun _ => False)) (fun h => h)
theorem not_mine1 {v : Value} {n : Nat} (h : ∀ k, v.ownBlock = some k → k < n) : ¬ Mine v n := fun e => Nat.lt_irrefl _ (h _ e)
theorem not_mine2 {v v' : Value} {n N : Nat} (h : ∀ k, v.ownBlock = some k → k < n) (hn : ∀ k, v'.ownBlock = some k → v.ownBlock = some k ∨ N ≤ k) (hN : n < N) : ¬ Mine v' n := fun e => (hn _ e).elim (fun q => Nat.lt_irrefl _ (h _ q)) (fun q => by omega)
theorem nil_not (k : Nat) : ¬ Mine (.slice none 0 0) k := fun e => by simp [Mine, Value.ownBlock] at e
theorem own_kept {w w' : World} {base : Nat} {v : Value} {l : List Int} {S : Nat → Prop} (h : Own w base v l) (hk : Kept w w' S) (hn : ∀ k, v.ownBlock = some k → ¬ S k) : Own w' base v l :=
  own_rw (Kd.R_kept (rw_own (ok := Mine v) h (fun _ q => q)) hk hn)
def ptB (b1 b2 b3 : Bool) (a b c : List Int) : Nat → Bool × List Int
  | 0 => (b1, a)
  | 1 => (b2, b)
  | _ => (b3, c)
def outB (p : Nat → Bool × List Int) : Nat → List Int
  | 0 => []
  | i + 1 => outB p i ++ (if (p i).1 then sec i (p i).2 else [])
theorem outB_put (x : Ns) : outB (ptB x.hm x.hf x.hl (txt x.md) (nlB x.fs) (llB x.ls)) 3 = putB x := by
  simp only [outB, ptB, putB, List.nil_append]; rfl
def ByteL (l : List Int) : Prop := ∀ x ∈ l, 0 ≤ x ∧ x < 256
theorem ByteL.app {a b : List Int} (ha : ByteL a) (hb : ByteL b) : ByteL (a ++ b) := fun x hx => (List.mem_append.1 hx).elim (ha x) (hb x)
theorem uL_byte (n : Nat) : ∀ x : Int, x.toNat ≤ n → 0 ≤ x → ByteL (uL x) := by
  induction n with
  | zero => intro x hx h0; rw [uL_small (by omega)]; intro y hy; simp at hy; omega
  | succ n ih =>
    intro x hx h0
    by_cases h : x < 128
    · rw [uL_small h]; intro y hy; simp at hy; omega
    · rw [uL_big (by omega)]
      intro y hy
      rcases List.mem_cons.1 hy with rfl | hy
      · omega
      · exact ih _ (by omega) (by omega) y hy
theorem bytesOf_byte (s : ByteArray) : ByteL (bytesOf s) := by
  intro x hx
  simp only [bytesOf, List.mem_map] at hx
  obtain ⟨b, _, rfl⟩ := hx
  have := b.toNat_lt
  omega
theorem txt_byte (s : ByteArray) : ByteL (txt s) := (uL_byte _ _ (Nat.le_refl _) (by omega)).app (bytesOf_byte s)
theorem nmsB_byte (l : List S121) (h : U32s l) : ByteL (nmsB l) := by
  intro x hx
  simp only [nmsB, List.mem_flatMap] at hx
  obtain ⟨y, hy, hx⟩ := hx
  exact ((uL_byte _ _ (Nat.le_refl _) (h y hy).1).app (txt_byte _)) x hx
theorem nlB_byte (l : List S121) (h : U32s l) : ByteL (nlB l) := (uL_byte _ _ (Nat.le_refl _) (by omega)).app (nmsB_byte l h)
theorem llB_byte (l : List S109) (h : ∀ y ∈ l, 0 ≤ y.f0 ∧ y.f0 ≤ 4294967295 ∧ U32s y.f1) : ByteL (llB l) := by
  refine (uL_byte _ _ (Nat.le_refl _) (by omega)).app ?_
  intro x hx
  simp only [losB, List.mem_flatMap] at hx
  obtain ⟨y, hy, hx⟩ := hx
  exact ((uL_byte _ _ (Nat.le_refl _) (h y hy).1).app (nlB_byte _ (h y hy).2.2)) x hx
theorem ptB_byte {b1 b2 b3 : Bool} {a b c : List Int} (ha : ByteL a) (hb : ByteL b) (hc : ByteL c) : ∀ j, ByteL (ptB b1 b2 b3 a b c j).2
  | 0 => ha
  | 1 => hb
  | _ + 2 => hc
theorem ptB_len {b1 b2 b3 : Bool} {a b c : List Int} {n : Nat} (ha : a.length ≤ n) (hb : b.length ≤ n) (hc : c.length ≤ n) : ∀ j, (ptB b1 b2 b3 a b c j).2.length ≤ n
  | 0 => ha
  | 1 => hb
  | _ + 2 => hc
theorem outB_len {p : Nat → Bool × List Int} (h : ∀ j, (p j).2.length ≤ 100000000) : ∀ {i : Nat}, i ≤ 3 → (outB p i).length ≤ i * 100000011 := by
  intro i
  induction i with
  | zero => simp [outB]
  | succ i ih =>
    intro hi
    have := ih (by omega)
    have hm := uL_max (p i).2.length (by omega) (by have := h i; omega)
    have hi2 := h i
    simp only [outB, List.length_append]
    generalize (outB p i).length = X at *
    have hs : (sec i (p i).2).length = 1 + ((uL ((p i).2.length : Int)).length + (p i).2.length) := by simp [sec]; omega
    generalize (uL ((p i).2.length : Int)).length = Y at *
    generalize (p i).2.length = Z at *
    clear h ih
    rw [Nat.add_mul, Nat.one_mul]
    generalize i * 100000011 = K at *
    split
    · rw [hs]; omega
    · simp only [List.length_nil]; omega
theorem strOfNums_size (l : List Int) : (strOfNums l).size = l.length := by simp [strOfNums, ByteArray.size]
theorem bytesOf_str {l : List Int} (h : ByteL l) : bytesOf (strOfNums l) = l := by
  simp only [bytesOf, strOfNums, List.map_map]
  conv => rhs; rw [← List.map_id l]
  refine List.map_congr_left fun x hx => ?_
  have := h x hx
  simp
  omega
theorem txt_str {l : List Int} (h : ByteL l) : txt (strOfNums l) = uL l.length ++ l := by rw [txt, strOfNums_size, bytesOf_str h]
theorem PNamesInfo5 : (Tryd.prog.info? 5).map (fun i => (i.zero, i.size, i.bytes)) = some (some (.int .u8 0), 1, 1) := by kernel_rfl
theorem own_str {W : World} {base : Nat} {v : Value} {l : List Int} (h : Own W base v l) : (convert 70 9 v).run Tryd.prog W = .ok (.string (strOfNums l)) W :=
  own_string (e := 5) Tryd.underlying70 Tryd.underlying5 Tryd.underlying9 h
theorem app_one {w wr W' : World} {v v' : Value} {l : List Int} {x : Int} {o : Obj} {ga capa : Nat} (hB : Below w.heap.size w wr) (hO : Own wr w.heap.size v l)
    (h : W'.ownsRow w.heap.size 5 1 v' (l.length + 1) (bv l ++ [.int .u8 x])) (hv : v' = .slice (some ⟨ga, 0, none⟩) (l.length + 1) capa) (hg : (wr.alloc o).drew.grownBy W' v.ownBlock) (hat : v.ownBlock = some ga ∨ ga = (wr.alloc o).drew.heap.size) :
    Own W' w.heap.size v' (l ++ [x]) ∧ Below w.heap.size w W' ∧ Kept (wr.alloc o).drew W' (Mine v) ∧ (∀ k, v'.ownBlock = some k → v.ownBlock = some k ∨ wr.heap.size < k) := by
  refine ⟨by unfold Own; rw [bv_app, List.length_append]; exact h, ?_, Kept.of_grown hg (Kept.refl _ _) (fun k hk => .inl hk), ?_⟩
  · exact (below_drew (below_alloc hB o)).grown hg (by have := hB.size; simp; omega) (fun k hk => (hO.lt k hk).1)
  · intro k hk
    subst hv
    simp only [Value.ownBlock, Option.some.injEq] at hk
    subst hk
    rcases hat with h1 | h1
    · exact .inl h1
    · right; rw [h1]; simp [World.drew]
theorem nm_new {v v' : Value} {g N : Nat} (h : ∀ k, k ≤ g → ¬ Mine v k) (hn : ∀ k, v'.ownBlock = some k → v.ownBlock = some k ∨ N < k) (hN : g ≤ N) : ∀ k, k ≤ g → ¬ Mine v' k :=
  fun k hk e => (hn k e).elim (fun q => h k hk q) (fun q => by omega)
theorem keepQ {w0 W W' : World} {g i : Nat} {vq : Value} {a : List Int} {S : Nat → Prop} (h : W.cell? ⟨g, i, none⟩ = some vq ∧ (convert 70 9 vq).run Tryd.prog W = .ok (.string (strOfNums a)) W ∧ Own W w0.heap.size vq a ∧ Below w0.heap.size w0 W)
    (hl : ∀ k, vq.ownBlock = some k → k < g) (hk : Kept W W' S) (hS : ∀ k, k ≤ g → ¬ S k) (hb : Below w0.heap.size w0 W') :
    W'.cell? ⟨g, i, none⟩ = some vq ∧ (convert 70 9 vq).run Tryd.prog W' = .ok (.string (strOfNums a)) W' ∧ Own W' w0.heap.size vq a ∧ Below w0.heap.size w0 W' := by
  have ho := own_kept h.2.2.1 hk (fun k q => hS k (Nat.le_of_lt (hl k q)))
  exact ⟨cell_kept h.1 hk (hS g (Nat.le_refl _)), own_str ho, ho, hb⟩
structure AllAt (base g : Nat) (va vb vc : Value) (a b c : List Int) (W : World) : Prop where
  c0 : W.cell? ⟨g, 0, none⟩ = some va
  c1 : W.cell? ⟨g, 1, none⟩ = some vb
  c2 : W.cell? ⟨g, 2, none⟩ = some vc
  o0 : Own W base va a
  o1 : Own W base vb b
  o2 : Own W base vc c
  l0 : ∀ k, va.ownBlock = some k → k < g
  l1 : ∀ k, vb.ownBlock = some k → k < g
  l2 : ∀ k, vc.ownBlock = some k → k < g
theorem AllAt.kept {base g : Nat} {va vb vc : Value} {a b c : List Int} {W W' : World} {S : Nat → Prop} (h : AllAt base g va vb vc a b c W) (hk : Kept W W' S) (hS : ∀ k, k ≤ g → ¬ S k) : AllAt base g va vb vc a b c W' :=
  ⟨cell_kept h.c0 hk (hS g (Nat.le_refl _)), cell_kept h.c1 hk (hS g (Nat.le_refl _)), cell_kept h.c2 hk (hS g (Nat.le_refl _)), own_kept h.o0 hk (fun k q => hS k (Nat.le_of_lt (h.l0 k q))), own_kept h.o1 hk (fun k q => hS k (Nat.le_of_lt (h.l1 k q))), own_kept h.o2 hk (fun k q => hS k (Nat.le_of_lt (h.l2 k q))), h.l0, h.l1, h.l2⟩
theorem AllAt.below {base g : Nat} {va vb vc : Value} {a b c : List Int} {W W' : World} (h : AllAt base g va vb vc a b c W) (hb : Below W.heap.size W W') : AllAt base g va vb vc a b c W' := h.kept (Kept.of_below hb (fun _ => False)) (fun _ _ h => h)
theorem AllAt.new {base : Nat} {va vb vc : Value} {a b c : List Int} {W : World} {T : Nat} (h0 : Own W base va a) (h1 : Own W base vb b) (h2 : Own W base vc c) : AllAt base W.heap.size va vb vc a b c (W.alloc (.cells #[va, vb, vc] T)) := by
  have hb : Below W.heap.size W (W.alloc (.cells #[va, vb, vc] T)) := bel
  exact ⟨by simp [World.cell?_alloc_new], by simp [World.cell?_alloc_new], by simp [World.cell?_alloc_new], own_below h0 hb, own_below h1 hb, own_below h2 hb, fun k q => (h0.lt k q).2, fun k q => (h1.lt k q).2, fun k q => (h2.lt k q).2⟩
theorem keep3 {w0 W W' : World} {B : Nat} {S : Nat → Prop} {p1 p2 : Addr} {a b : Value} (h : W.cell? p1 = some a ∧ W.cell? p2 = some b ∧ Below B w0 W) (hk : Kept W W' S) (n1 : ¬ S p1.block) (n2 : ¬ S p2.block) (hb : Below B w0 W') : W'.cell? p1 = some a ∧ W'.cell? p2 = some b ∧ Below B w0 W' := ⟨cell_kept h.1 hk n1, cell_kept h.2.1 hk n2, hb⟩
theorem keep3a {w0 W : World} {p1 p2 : Addr} {a b : Value} {o : Obj} (h : W.cell? p1 = some a ∧ W.cell? p2 = some b ∧ Below w0.heap.size w0 W) : (W.alloc o).cell? p1 = some a ∧ (W.alloc o).cell? p2 = some b ∧ Below w0.heap.size w0 (W.alloc o) :=
  keep3 h (Kept.alloc (Kept.refl _ (fun _ => False)) _) (fun h => h) (fun h => h) (below_alloc h.2.2 o)
theorem keepK2 {W W' : World} {S : Nat → Prop} {p1 p2 : Addr} {a b : Value} (h : W.cell? p1 = some a ∧ W.cell? p2 = some b) (hk : Kept W W' S) (n1 : ¬ S p1.block) (n2 : ¬ S p2.block) : W'.cell? p1 = some a ∧ W'.cell? p2 = some b := ⟨cell_kept h.1 hk n1, cell_kept h.2 hk n2⟩
set_option maxRecDepth 100000 in
set_option maxHeartbeats 8000000 in
theorem put_walk (x : Ns) (A : Option Addr) (c : Nat) (B : Option Addr) (d : Nat) (w : World) (hx : x.at A c B d w) (hs : x.small) (hf : x.fit) :
    Calls Tryd.prog 11 #[.agg #[.bool x.hm, .bool x.hf, .bool x.hl, .string x.md, .slice A x.fs.length c, .slice B x.ls.length d]] w fun e w' => e = .returned (.tuple #[.string (if nrightB x then strOfNums (putB x) else ⟨#[]⟩), .int .i64 (if nrightB x then 0 else 3)]) ∧ Below w.heap.size w w' := by
  have hu := Tryd.underlying33
  have hu2 := Tryd.underlying109
  have HR := hid (fun W (h : Below w.heap.size w W) => right_walk x A c B d W (hx.below h) hs)
  have HX := hid hx
  have HS := hid hs
  have HF := hid hf
  have h1 := hs.2.1
  have h2 := hs.2.2.1
  clear hx hs hf
  rcases hr : nrightB x with _ | _
  · rw [hr] at HR
    clear hr
    simp only [Bool.false_eq_true, if_false]
    go_enter Tryd.func11, Tryd.ntmps11
    go_wp2_with (first | (go_at_call 17; refine (HR.out _ bel).mono ?_; rintro e w' ⟨rfl, hb1⟩; (first | have hq1 := hz1 | have hq1 := True.intro); (first | have hq0 := hz0 | have hq0 := True.intro); obtain ⟨hcc, hff⟩ := bcell hb1; have hz1 := hb1.size; (try simp at hz1); (try have hy1 := Nat.lt_of_lt_of_le hq1 hz1); (try have hy0 := Nat.lt_of_lt_of_le hq0 hz1); (try replace hz1 := Nat.lt_of_succ_le hz1); (try have hz0 := Nat.lt_of_succ_lt hz1)))
    refine bodyPost_ret (v := .tuple #[.string ⟨#[]⟩, .int .i64 3]) ?_ rfl ⟨rfl, bel⟩
    simp [results, Tryd.results11, go_sem]
  · rw [hr] at HR
    clear hr
    simp only [if_true]
    obtain ⟨b1, b2, b3, m, f, l⟩ := x
    dsimp only at HR h1 h2 ⊢
    have XL : Hid (Kd.C k109 w B l.length l) := HX.out.2.2.1
    have XF : Hid (Kd.C k121 w A f.length f) := HX.out.1
    have XC : f.length ≤ c := HX.out.2.1
    have UF : Hid (U32s f) := HF.out.1
    have UL : Hid (∀ y ∈ l, 0 ≤ y.f0 ∧ y.f0 ≤ 4294967295 ∧ U32s y.f1) := HF.out.2.1
    have LM : Hid ((txt m).length ≤ 100000000) := HF.out.2.2.1
    have LF : Hid ((nlB f).length ≤ 100000000) := HF.out.2.2.2.1
    have LL : Hid ((llB l).length ≤ 100000000) := HF.out.2.2.2.2
    have SM : m.size ≤ 1000000000 := HS.out.1
    have SL : Hid (Short l) := HS.out.2.2.2.2
    clear HX HF HS
    go_enter Tryd.func11, Tryd.ntmps11
    go_upto_region 3 with (first | (go_at_call 17; refine (HR.out _ bel).mono ?_; rintro e w' ⟨rfl, hb1⟩; (first | have hq1 := hz1 | have hq1 := True.intro); (first | have hq0 := hz0 | have hq0 := True.intro); obtain ⟨hcc, hff⟩ := bcell hb1; have hz1 := hb1.size; (try simp at hz1); (try have hy1 := Nat.lt_of_lt_of_le hq1 hz1); (try have hy0 := Nat.lt_of_lt_of_le hq0 hz1); (try replace hz1 := Nat.lt_of_succ_le hz1); (try have hz0 := Nat.lt_of_succ_lt hz1)))
    have KN := hid ((BoxN.new w b1 b2 b3 m (.slice A f.length c) (.slice B l.length d) 33).below hb1)
    have KB := hid (below_call (bel : Below w.heap.size w (w.alloc (.cells #[.bool b1, .bool b2, .bool b3, .string m, .slice A f.length c, .slice B l.length d] 33))) hb1 (by simp))
    clear hb1 hcc hff hq1 hq0
    have k5 := KN.out.2.2.2.2.2
    have HP := hid (putU_own (.slice none 0 0) [] l.length w w' KB.out (own_nil' _ _) (by omega) (by omega) (by simp))
    go_upto_region 4 with (first | (go_at_call 63; refine HP.out.mono ?_; rintro e w2 ⟨v4, rfl, ho, hb, hk, hn⟩))
    have KN2 := hid (KN.out.kept hk (fun h => by simp [Mine, Value.ownBlock] at h))
    have HN2 := hid (show ∀ k, v4.ownBlock = some k → w.heap.size < k from fun k hk => by
      rcases hn k hk with h | h
      · simp [Value.ownBlock] at h
      · omega)
    have HO2 := hid ho
    have HB2 := hid hb
    have hz2 : w.heap.size < w2.heap.size := Nat.lt_of_lt_of_le hz1 hk.1
    clear ho hb hk hn k5 HP KN KB hz1
    have k5 := KN2.out.2.2.2.2.2
    go_wp2
    go_loopw [4, 22] (fun v4 v22 wr => ∃ i : Nat, v22 = .int .i64 i ∧ i ≤ l.length ∧ Hid (Own wr w.heap.size v4 (uL l.length ++ losB (l.take i))) ∧ Hid (∀ k, v4.ownBlock = some k → w.heap.size < k) ∧ Hid (BoxN w.heap.size b1 b2 b3 m (.slice A f.length c) (.slice B l.length d) wr) ∧ w.heap.size < wr.heap.size ∧ Hid (Below w.heap.size w wr)) (fun _ v22 _ => l.length - (intOf v22).toNat)
    case atStart => exact ⟨0, by go_num, by omega, hid (by simpa [losB] using HO2.out), HN2, KN2, hz2, HB2⟩
    case round =>
      obtain ⟨i, rfl, hi1, HO, HN, KN, hz, HB⟩ := hrel
      clear HO2 HN2 KN2 hz2 HB2 k5
      by_cases hlt : i < l.length
      · have hca := Kd.C_below XL.out HB.out
        obtain ⟨ad, A1, c1, rfl, e1, e2, l1, g1⟩ := at_T109 hca (i : Int) (by omega) (by omega)
        rw [Int.toNat_natCast] at e1 e2
        have hgi := rd_Local l i hlt
        have hU : 0 ≤ (rd_T109 l i).f0 ∧ (rd_T109 l i).f0 ≤ 4294967295 ∧ U32s (rd_T109 l i).f1 := by rw [hgi]; exact UL.out _ (List.getElem_mem hlt)
        obtain ⟨hU0, hU1, hU2⟩ := hU
        have hC0 : Kd.C k121 w A1 (rd_T109 l i).f1.length (rd_T109 l i).f1 := by
          obtain ⟨ad', A1', c1', hh, e1', e2', l1', g1'⟩ := at_T109 XL.out (i : Int) (by omega) (by omega)
          obtain rfl := Option.some.inj hh
          rw [Int.toNat_natCast] at e2'
          have := HB.out.cell (cell_ltM e2')
          rw [e2, e2'] at this
          simp only [Option.some.injEq, Value.slice.injEq] at this
          rw [this.1]; exact g1'
        have hlen := (SL.out i hlt).1
        have hsz2 : (uL (l.length : Int)).length + (losB (l.take i)).length + ((uL (rd_T109 l i).f0).length + (nlB (rd_T109 l i).f1).length) ≤ 100000000 := by
          have q1 := LL.out
          have q2 := losB_le l (i + 1)
          rw [losB_take l i hlt, ← hgi] at q2
          simp only [llB, loB, List.length_append] at q1 q2
          omega
        have hnb : (nlB (rd_T109 l i).f1).length ≤ 100000000 := by omega
        obtain ⟨wo, hwo⟩ : ∃ wo, wo = wr.alloc (.cells #[.int .u32 (rd_T109 l i).f0, .slice A1 (rd_T109 l i).f1.length c1] 109) := ⟨_, rfl⟩
        have hwb : Below wr.heap.size wr wo := by rw [hwo]; exact bel
        have HP := hid (show ∀ W, Below wo.heap.size wo W → Calls Tryd.prog 63 #[u4, .int .u64 (IntKind.u64.wrap (rd_T109 l i).f0)] W (PO w W u4 ((uL l.length ++ losB (l.take i)) ++ uL (rd_T109 l i).f0)) from fun W hW => by
          rw [wu, show (rd_T109 l i).f0 % 18446744073709551616 = (rd_T109 l i).f0 by omega]
          exact putU_own u4 _ _ w W (below_call (below_call HB.out hwb (by omega)) hW (by have := hwb.size; omega)) (own_below (own_below HO.out hwb) hW) hU0 (by omega) (by simp only [List.length_append]; omega))
        have HQ := hid (show ∀ W v, Below w.heap.size w W → Own W w.heap.size v ((uL l.length ++ losB (l.take i)) ++ uL (rd_T109 l i).f0) → Calls Tryd.prog 64 #[v, .slice A1 (rd_T109 l i).f1.length c1] W (PO w W v (((uL l.length ++ losB (l.take i)) ++ uL (rd_T109 l i).f0) ++ nlB (rd_T109 l i).f1)) from fun W v hW hO =>
          list_own v _ A1 c1 _ w W hW hO hC0 l1 hU2 (by simp only [List.length_append]; omega) hlen)
        clear hca hC0 g1 hU2 hsz2 hnb
        have HG := hid hgi
        clear hgi
        have HL4 := hid (show ∀ k, u4.ownBlock = some k → k < wr.heap.size from fun k hk => (HO.out.lt k hk).2)
        go_upto_region 7 with (fail)
        subst hwo
        go_region_held3 (fun W => W.cell? ⟨wr.heap.size, 0, none⟩ = some (.int .u32 (rd_T109 l i).f0) ∧ W.cell? ⟨wr.heap.size, 1, none⟩ = some (.slice A1 (rd_T109 l i).f1.length c1))
          (first
            | (go_keep; done) | exact keepK2 (by assumption) hk5 (not_mine1 HL4.out) (not_mine1 HL4.out) | exact keepK2 (by assumption) hk7 (not_mine2 HL4.out hn5 (by simp)) (not_mine2 HL4.out hn5 (by simp)))
          (first
            | (go_at_call 63; (with_reducible refine (HP.out _ ?hbl).mono ?_); (case hbl => first | exact Below.refl _ _ | exact below_drew (Below.refl _ _)); rintro e w5 ⟨v5, rfl, ho5, hb5, hk5, hn5⟩)
            | (go_at_call 64; (with_reducible refine (HQ.out _ _ hb5 ho5).mono ?_); rintro e w7 ⟨v7, rfl, ho7, hb7, hk7, hn7⟩))
        all_goals (go_wp2_with fail)
        all_goals
          refine ⟨⟨i + 1, by go_num, by omega, hid ?_, hid ?_, hid ?_, ?_, hid hb7⟩, by simp [intOf]; omega⟩
          · rw [losB_take l i hlt, ← HG.out]; simpa [loB, List.append_assoc] using ho7
          · intro k hk
            rcases hn7 k hk with q | q
            · rcases hn5 k q with q | q
              · exact HN.out k q
              · simp at q; omega
            · have := hk5.1; simp at this; omega
          · exact ((KN.out.below hwb).kept (hk5 : Kept (wr.alloc _) _ _) (fun h => Nat.lt_irrefl _ (HN.out _ h))).kept hk7 (fun h => by
              rcases hn5 _ h with q | q
              · exact Nat.lt_irrefl _ (HN.out _ q)
              · simp at q; omega)
          · have q1 := hk5.1
            have q2 := hk7.1
            simp at q1
            omega
      · obtain rfl : i = l.length := by omega
        have HO2 := hid (show Own wr w.heap.size u4 (llB l) by have := HO.out; rwa [List.take_length] at this)
        have c3 := KN.out.2.2.2.1
        have c4 := KN.out.2.2.2.2.1
        clear HO hi1 hlt
        have HPT := hid (show ∀ W, Below w.heap.size w W → Calls Tryd.prog 65 #[.slice none 0 0, .string m] W (PO w W (.slice none 0 0) (txt m)) from fun W hW => putText_own (.slice none 0 0) [] m w W hW (own_nil' _ _) SM (by simp))
        have HLI := hid (show ∀ W, Below w.heap.size w W → Calls Tryd.prog 64 #[.slice none 0 0, .slice A f.length c] W (PO w W (.slice none 0 0) (nlB f)) from fun W hW => list_own (.slice none 0 0) [] A c f w W hW (own_nil' _ _) XF.out XC UF.out (by have := LF.out; simp; omega) h1)
        go_upto_region 10 with (fail)
        obtain ⟨A4, cc4, rfl⟩ := own_slice HO2.out
        go_cut [8] (fun s8 wx => ∃ (g : Nat) (va vb : Value), s8 = .slice (some ⟨g, 0, none⟩) 3 3 ∧ Hid (AllAt w.heap.size g va vb (.slice A4 (llB l).length cc4) (txt m) (nlB f) (llB l) wx) ∧ Hid (BoxN w.heap.size b1 b2 b3 m (.slice A f.length c) (.slice B l.length d) wx) ∧ g < wx.heap.size ∧ w.heap.size < g ∧ Hid (Below w.heap.size w wx))
        case first =>
          have S0 : wr.cell? ⟨w.heap.size, 3, none⟩ = some (.string m) ∧ wr.cell? ⟨w.heap.size, 4, none⟩ = some (.slice A f.length c) ∧ Below w.heap.size w wr := ⟨c3, c4, HB.out⟩
          go_region_held3 (fun W => W.cell? ⟨w.heap.size, 3, none⟩ = some (.string m) ∧ W.cell? ⟨w.heap.size, 4, none⟩ = some (.slice A f.length c) ∧ Below w.heap.size w W)
            (first
              | exact S0 | exact ⟨c3, c4, below_drew HB.out⟩ | exact keep3a (by assumption) | exact keep3 (by assumption) hk5 (nil_not _) (nil_not _) hb5 | exact keep3 (by assumption) hk7 (nil_not _) (nil_not _) hb7)
            (first
              | (go_at_call 65; (with_reducible refine (HPT.out _ (‹_ ∧ _ ∧ Below _ _ _›).2.2).mono ?_); rintro e w5 ⟨v5, rfl, ho5, hb5, hk5, hn5⟩; obtain ⟨A5, c5, rfl⟩ := own_slice ho5)
              | (go_at_call 64; (with_reducible refine (HLI.out _ (‹_ ∧ _ ∧ Below _ _ _›).2.2).mono ?_); rintro e w7 ⟨v7, rfl, ho7, hb7, hk7, hn7⟩; obtain ⟨A7, c7, rfl⟩ := own_slice ho7))
          all_goals (go_wp2_with fail)
          all_goals (go_meet)
          have hO5 := own_kept ho5 hk7 (fun k _ => nil_not k)
          have hO4 := own_kept (own_kept HO2.out (hk5 : Kept wr _ _) (fun k _ => nil_not k)) hk7 (fun k _ => nil_not k)
          have hK := (KN.out.kept (hk5 : Kept wr _ _) (nil_not _)).kept hk7 (nil_not _)
          exact ⟨w7.heap.size, _, _, rfl, hid (AllAt.new hO5 ho7 hO4), hid (hK.below (Below.alloc (Below.refl _ _) (Nat.le_refl _) _)), by simp, by have := hk5.1; have := hk7.1; simp at *; omega, hid (below_alloc hb7 _)⟩
        case rest =>
          obtain ⟨g, va, vb, rfl, HA, HN2, hg1, hg2, HB2⟩ := hcut
          have k0 := HN2.out.1
          have k1 := HN2.out.2.1
          have k2 := HN2.out.2.2.1
          clear HN KN hz HB HO2 c3 c4 HPT HLI
          obtain ⟨p, hp⟩ : ∃ p, p = ptB b1 b2 b3 (txt m) (nlB f) (llB l) := ⟨_, rfl⟩
          obtain ⟨q, hq⟩ : ∃ q : Nat → Value, q = fun i => match i with | 0 => va | 1 => vb | _ => .slice A4 (llB l).length cc4 := ⟨_, rfl⟩
          have HP := hid hp
          have HQ := hid hq
          have HBL := hid (show ∀ j : Nat, ByteL (p j).2 from by rw [hp]; exact ptB_byte (txt_byte m) (nlB_byte f UF.out) (llB_byte l UL.out))
          have HLE := hid (show ∀ j : Nat, (p j).2.length ≤ 100000000 from by rw [hp]; exact ptB_len LM.out LF.out LL.out)
          have HOQ := hid (show ∀ j : Nat, j < 3 → wc.cell? ⟨g, j, none⟩ = some (q j) ∧ Own wc w.heap.size (q j) (p j).2 ∧ (∀ k, (q j).ownBlock = some k → k < g) from by
            intro j hj
            rw [hp, hq]
            match j, hj with
            | 0, _ => exact ⟨HA.out.c0, HA.out.o0, HA.out.l0⟩
            | 1, _ => exact ⟨HA.out.c1, HA.out.o1, HA.out.l1⟩
            | 2, _ => exact ⟨HA.out.c2, HA.out.o2, HA.out.l2⟩)
          have HCB := hid (show ∀ j : Nat, j < 3 → (wc.alloc (.cells #[.bool b1, .bool b2, .bool b3] 4)).cell? ⟨wc.heap.size, j, none⟩ = some (.bool (p j).1) from by
            intro j hj
            rw [hp]
            match j, hj with
            | 0, _ => simp [World.cell?_alloc_new, ptB]
            | 1, _ => simp [World.cell?_alloc_new, ptB]
            | 2, _ => simp [World.cell?_alloc_new, ptB])
          clear hp hq
          obtain ⟨i0, hi0, hz0, hz1, hz2⟩ := info_parts PNamesInfo5
          go_wp2
          go_loopw [7, 51] (fun v7 v51 wr => ∃ i : Nat, v51 = .int .i64 i ∧ i ≤ 3 ∧ Hid (Own wr w.heap.size v7 (outB p i)) ∧ Hid (∀ k, v7.ownBlock = some k → wc.heap.size < k) ∧ Hid (Kept (wc.alloc (.cells #[.bool b1, .bool b2, .bool b3] 4)) wr (fun _ => False)) ∧ wc.heap.size < wr.heap.size ∧ Hid (Below w.heap.size w wr)) (fun _ v51 _ => 3 - (intOf v51).toNat)
          case atStart => exact ⟨0, by go_num, by omega, hid (own_nil' _ _), hid (fun k h => by simp [Value.ownBlock] at h), hid (Kept.refl _ _), by simp, hid (below_alloc HB2.out _)⟩
          case round =>
            obtain ⟨i, rfl, hi1, HO, HN, HK, hz, HB⟩ := hrel
            by_cases hlt : i < 3
            · have cb := cell_kept (HCB.out i hlt) HK.out (fun h => h)
              have hB0 : Below wc.heap.size wc (wc.alloc (.cells #[.bool b1, .bool b2, .bool b3] 4)) := below_alloc (Below.refl _ _) _
              have hq0 := HOQ.out i hlt
              have hqc := cell_kept (pw_cell_below hB0 hq0.1) HK.out (fun h => h)
              have hqo := own_kept (own_below hq0.2.1 hB0) HK.out (fun _ _ h => h)
              have HQL := hid hq0.2.2
              have HNG := hid (show ∀ k, k ≤ g → ¬ Mine u7 k from fun k hk h => by have := HN.out k h; omega)
              rcases hb : (p i).1 with _ | _
              · have HBB := hid hb
                rw [hb] at cb
                clear hb hqc hqo hq0 hB0
                go_wp2
                go_roundw
                case rel => exact ⟨i + 1, by go_num, by omega, hid (by simp only [outB]; rw [HBB.out]; simpa using HO.out), HN, HK, hz, HB⟩
                case measure => simp [intOf]; omega
              · have HBB := hid hb
                rw [hb] at cb
                have S0 : wr.cell? ⟨g, i, none⟩ = some (q i) ∧ (convert 70 9 (q i)).run Tryd.prog wr = .ok (.string (strOfNums (p i).2)) wr ∧ Own wr w.heap.size (q i) (p i).2 ∧ Below w.heap.size w wr := ⟨hqc, own_str hqo, hqo, HB.out⟩
                have HLN := hid (show (outB p i).length ≤ 400000000 from Nat.le_trans (outB_len HLE.out (by omega)) (by omega))
                have HPT := hid (show ∀ W v, Below w.heap.size w W → Own W w.heap.size v (outB p i ++ [(i : Int)]) → Calls Tryd.prog 65 #[v, .string (strOfNums (p i).2)] W (PO w W v (outB p i ++ sec i (p i).2)) from fun W v hW hO => by
                  have := putText_own v _ (strOfNums (p i).2) w W hW hO (by rw [strOfNums_size]; have := HLE.out i; omega) (by have := HLN.out; simp; omega)
                  rwa [txt_str (HBL.out i), List.append_assoc] at this)
                have hw8 : IntKind.u8.wrap (i : Int) = i := by rw [IntKind.wrap]; simp [IntKind.bits, IntKind.signed]; omega
                clear hb hqc hqo hq0 hB0
                go_upto_region 15 with (fail)
                refine wp_region_noPanic ?_
                refine wp_region_held_drew (S := (fun W => W.cell? ⟨g, i, none⟩ = some (q i) ∧ (convert 70 9 (q i)).run Tryd.prog W = .ok (.string (strOfNums (p i).2)) W ∧ Own W w.heap.size (q i) (p i).2 ∧ Below w.heap.size w W)) (by kernel_rfl) ?hS (fun hHeld => ?go)
                case hS => first | exact keepQ S0 HQL.out (Kept.refl wr (fun _ => False)) (fun _ _ h => h) (below_drew HB.out) | exact keepQ (by assumption) HQL.out (Kept.refl _ (fun _ => False)) (fun _ _ h => h) (by first | exact below_drew HB.out | exact HB.out) | exact keepQ (by assumption) HQL.out (Kept.alloc (Kept.refl wr.drew (fun _ => False)) _ : Kept wr.drew (wr.drew.alloc _) _) (fun _ _ h => h) (below_drew (below_alloc HB.out _)) | exact keepQ (by assumption) HQL.out hka (fun k hk => HNG.out k hk) hba | exact keepQ (by assumption) HQL.out hk5 (fun k hk => HNH.out k hk) hb5
                refine wpAnyH_take (i := 0) (oi := { dst := some 57, op := Go.Op.move (Go.Operand.tmp 7), type := 70, pos := "names.go:106", after := #[], guard := none }) (v := ?_) rfl (by kernel_rfl) (by kernel_rfl) (by kernel_rfl) (fun _ _ _ h => h) (Or.inl ⟨by rfl, ?hy0⟩) (by assumption) ?rest0
                case hy0 => (intro w hSw; (try dsimp only at hSw); go_simp; try with_reducible rfl)
                simp only [Act.put, List.setIfInBounds_toArray, List.set_cons_zero, List.set_cons_succ]
                refine wpAnyH_take (i := 1) (oi := { dst := some 58, op := Go.Op.move (Go.Operand.tmp 9), type := 3, pos := "names.go:106", after := #[], guard := none }) (v := ?_) rfl (by kernel_rfl) (by kernel_rfl) (by kernel_rfl) (fun _ _ _ h => h) (Or.inl ⟨by rfl, ?hy1⟩) (by assumption) ?rest1
                case hy1 => (intro w hSw; (try dsimp only at hSw); go_simp; try with_reducible rfl)
                simp only [Act.put, List.setIfInBounds_toArray, List.set_cons_zero, List.set_cons_succ]
                refine wpAnyH_take (i := 2) (oi := { dst := some 59, op := Go.Op.convert 3 5 (Go.Operand.tmp 58), type := 5, pos := "names.go:106", after := #[{ on := 1, ground := Go.Ground.data }], guard := none }) (v := ?_) rfl (by kernel_rfl) (by kernel_rfl) (by kernel_rfl) (fun _ _ _ h => h) (Or.inl ⟨by rfl, ?hy2⟩) (by assumption) ?rest2
                case hy2 => (intro w hSw; (try dsimp only at hSw); go_simp; try with_reducible rfl)
                simp only [Act.put, List.setIfInBounds_toArray, List.set_cons_zero, List.set_cons_succ]
                refine wpAnyH_take (i := 5) (oi := { dst := some 62, op := Go.Op.move (Go.Operand.tmp 8), type := 114, pos := "names.go:106", after := #[], guard := none }) (v := ?_) rfl (by kernel_rfl) (by kernel_rfl) (by kernel_rfl) (fun _ _ _ h => h) (Or.inl ⟨by rfl, ?hy5⟩) (by assumption) ?rest5
                case hy5 => (intro w hSw; (try dsimp only at hSw); go_simp; try with_reducible rfl)
                simp only [Act.put, List.setIfInBounds_toArray, List.set_cons_zero, List.set_cons_succ]
                refine wpAnyH_take (i := 6) (oi := { dst := some 63, op := Go.Op.move (Go.Operand.tmp 9), type := 3, pos := "names.go:106", after := #[], guard := none }) (v := ?_) rfl (by kernel_rfl) (by kernel_rfl) (by kernel_rfl) (fun _ _ _ h => h) (Or.inl ⟨by rfl, ?hy6⟩) (by assumption) ?rest6
                case hy6 => (intro w hSw; (try dsimp only at hSw); go_simp; try with_reducible rfl)
                simp only [Act.put, List.setIfInBounds_toArray, List.set_cons_zero, List.set_cons_succ]
                refine wpAnyH_take (i := 7) (oi := { dst := some 64, op := Go.Op.indexAddr 114 (Go.Operand.tmp 62) (Go.Operand.tmp 63), type := 0, pos := "names.go:106", after := #[{ on := 5, ground := Go.Ground.data }, { on := 6, ground := Go.Ground.data }], guard := none }) (v := ?_) rfl (by kernel_rfl) (by kernel_rfl) (by kernel_rfl) (fun _ _ _ h => h) (Or.inl ⟨by rfl, ?hy7⟩) (by assumption) ?rest7
                case hy7 => (intro w hSw; (try dsimp only at hSw); go_simp; try with_reducible rfl)
                simp only [Act.put, List.setIfInBounds_toArray, List.set_cons_zero, List.set_cons_succ]
                refine wpAnyH_take (i := 8) (oi := { dst := some 65, op := Go.Op.load 70 (Go.Operand.tmp 64), type := 70, pos := "names.go:106", after := #[{ on := 7, ground := Go.Ground.data }], guard := none }) (v := ?_) rfl (by kernel_rfl) (by kernel_rfl) (by kernel_rfl) (fun _ _ _ h => h) (Or.inl ⟨by rfl, ?hy8⟩) (by assumption) ?rest8
                case hy8 => (intro w hSw; (try dsimp only at hSw); go_simp; try with_reducible rfl)
                simp only [Act.put, List.setIfInBounds_toArray, List.set_cons_zero, List.set_cons_succ]
                refine wpAnyH_take (i := 9) (oi := { dst := some 66, op := Go.Op.convert 70 9 (Go.Operand.tmp 65), type := 9, pos := "names.go:106", after := #[{ on := 8, ground := Go.Ground.data }], guard := none }) (v := ?_) rfl (by kernel_rfl) (by kernel_rfl) (by kernel_rfl) (fun _ _ _ h => h) (Or.inl ⟨by rfl, ?hy9⟩) (by assumption) ?rest9
                case hy9 => (intro w hSw; (try dsimp only at hSw); go_simp; try with_reducible rfl)
                simp only [Act.put, List.setIfInBounds_toArray, List.set_cons_zero, List.set_cons_succ]
                refine wpAnyH_ready (rs := [3]) (by kernel_rfl) (by simp) ?_
                refine AllReadyH.cons (o := { dst := some 60, op := Go.Op.buildSlice 70 1 #[(0, Go.Operand.tmp 59)], type := 70, pos := "names.go:106", after := #[{ on := 2, ground := Go.Ground.data }], guard := none }) rfl (fun K hK => ?_) AllReadyH.nil
                go_simp
                refine hK.out _ _ ?_ (fun hHeld => ?_)
                · (try dsimp only); first | exact keepQ S0 HQL.out (Kept.refl wr (fun _ => False)) (fun _ _ h => h) (below_drew HB.out) | exact keepQ (by assumption) HQL.out (Kept.refl _ (fun _ => False)) (fun _ _ h => h) (by first | exact below_drew HB.out | exact HB.out) | exact keepQ (by assumption) HQL.out (Kept.alloc (Kept.refl wr.drew (fun _ => False)) _ : Kept wr.drew (wr.drew.alloc _) _) (fun _ _ h => h) (below_drew (below_alloc HB.out _)) | exact keepQ (by assumption) HQL.out hka (fun k hk => HNG.out k hk) hba | exact keepQ (by assumption) HQL.out hk5 (fun k hk => HNH.out k hk) hb5
                clear hK K
                try simp only [Act.put, List.setIfInBounds_toArray, List.set_cons_zero, List.set_cons_succ]
                refine wpAnyH_ready (rs := [4]) (by kernel_rfl) (by simp) ?_
                refine AllReadyH.cons (o := { dst := some 61, op := Go.Op.call { callee := Go.Callee.builtin Go.Builtin.append, args := #[Go.Operand.tmp 57, Go.Operand.tmp 60], argTypes := #[70, 70] }, type := 70, pos := "names.go:106", after := #[{ on := 0, ground := Go.Ground.data }, { on := 3, ground := Go.Ground.data }], guard := none }) rfl (fun K hK => ?_) AllReadyH.nil
                refine step_append_lies _ rfl (.tmp 57) (.tmp 60) 70 (by rfl) w.heap.size 5 i0 (.int .u8 0) 1 1 Tryd.underlying70 hi0 hz0 hz1 hz2 rfl (by decide) u7 (outB p i).length (bv (outB p i)) (by rfl) (own_below (own_below HO.out (below_alloc (Below.refl _ _) _)) (below_drew (Below.refl _ _))) ⟨wr.heap.size, 0, none⟩ 1 1 [.int .u8 i] (by rfl) rfl (fun j u hj => one_new wr (.int .u8 i) 5 j u hj) (by intro u hu; simp at hu; subst hu; rfl) (by decide) (by have := HLN.out; unfold maxLen; omega) (by have := HLN.out; omega) (by simp; omega) _ rfl ?_; intro ga capa wa howna hgrowa hata hlta; obtain ⟨hoa, hba, hka, hna⟩ := app_one (o := .cells #[.int .u8 i] 5) HB.out HO.out howna rfl hgrowa hata; have HNH := hid (nm_new HNG.out hna (by omega))
                refine hK.out _ _ ?_ (fun hHeld => ?_)
                · (try dsimp only); first | exact keepQ S0 HQL.out (Kept.refl wr (fun _ => False)) (fun _ _ h => h) (below_drew HB.out) | exact keepQ (by assumption) HQL.out (Kept.refl _ (fun _ => False)) (fun _ _ h => h) (by first | exact below_drew HB.out | exact HB.out) | exact keepQ (by assumption) HQL.out (Kept.alloc (Kept.refl wr.drew (fun _ => False)) _ : Kept wr.drew (wr.drew.alloc _) _) (fun _ _ h => h) (below_drew (below_alloc HB.out _)) | exact keepQ (by assumption) HQL.out hka (fun k hk => HNG.out k hk) hba | exact keepQ (by assumption) HQL.out hk5 (fun k hk => HNH.out k hk) hb5
                clear hK K
                try simp only [Act.put, List.setIfInBounds_toArray, List.set_cons_zero, List.set_cons_succ]
                refine wpAnyH_ready (rs := [10]) (by kernel_rfl) (by simp) ?_
                refine AllReadyH.cons (o := { dst := some 67, op := Go.Op.call { callee := Go.Callee.value (Go.Operand.func 65), args := #[Go.Operand.tmp 61, Go.Operand.tmp 66], argTypes := #[70, 9] }, type := 70, pos := "names.go:106", after := #[{ on := 4, ground := Go.Ground.data }, { on := 9, ground := Go.Ground.data }, { on := 4, ground := Go.Ground.chain }], guard := none }) rfl (fun K hK => ?_) AllReadyH.nil
                go_simp
                go_at_call 65; (with_reducible refine (HPT.out _ _ hba hoa).mono ?_); rintro e w5 ⟨v5, rfl, ho5, hb5, hk5, hn5⟩
                refine hK.out _ _ ?_ (fun hHeld => ?_)
                · (try dsimp only); first | exact keepQ S0 HQL.out (Kept.refl wr (fun _ => False)) (fun _ _ h => h) (below_drew HB.out) | exact keepQ (by assumption) HQL.out (Kept.refl _ (fun _ => False)) (fun _ _ h => h) (by first | exact below_drew HB.out | exact HB.out) | exact keepQ (by assumption) HQL.out (Kept.alloc (Kept.refl wr.drew (fun _ => False)) _ : Kept wr.drew (wr.drew.alloc _) _) (fun _ _ h => h) (below_drew (below_alloc HB.out _)) | exact keepQ (by assumption) HQL.out hka (fun k hk => HNG.out k hk) hba | exact keepQ (by assumption) HQL.out hk5 (fun k hk => HNH.out k hk) hb5
                clear hK K
                try simp only [Act.put, List.setIfInBounds_toArray, List.set_cons_zero, List.set_cons_succ]
                refine wpAnyH_take (i := 11) (oi := { dst := some 7, op := Go.Op.assign (Go.Operand.tmp 67), type := 70, pos := "names.go:106", after := #[{ on := 10, ground := Go.Ground.data }, { on := 10, ground := Go.Ground.chain }, { on := 0, ground := Go.Ground.phase }, { on := 1, ground := Go.Ground.phase }, { on := 2, ground := Go.Ground.phase }, { on := 3, ground := Go.Ground.phase }, { on := 4, ground := Go.Ground.phase }, { on := 5, ground := Go.Ground.phase }, { on := 6, ground := Go.Ground.phase }, { on := 7, ground := Go.Ground.phase }, { on := 8, ground := Go.Ground.phase }, { on := 9, ground := Go.Ground.phase }, { on := 10, ground := Go.Ground.phase }], guard := none }) (v := ?_) rfl (by kernel_rfl) (by kernel_rfl) (by kernel_rfl) (fun _ _ _ h => h) (Or.inl ⟨by rfl, ?hy11⟩) (by assumption) ?rest11
                case hy11 => (intro w hSw; (try dsimp only at hSw); go_simp; try with_reducible rfl)
                simp only [Act.put, List.setIfInBounds_toArray, List.set_cons_zero, List.set_cons_succ]
                refine wpAnyH_done (by kernel_rfl) ?_ _
                refine NoPanic.normal ?_
                go_wp2_with fail
                have hkx : ∀ k, (Value.slice (some ⟨ga, 0, none⟩) ((outB p i).length + 1) capa).ownBlock = some k → wc.heap.size < k := fun k hk => by
                  rcases hna k hk with r | r
                  · exact HN.out k r
                  · omega
                have hkw := hka.1
                simp [World.drew] at hkw
                have hk6 := hk5.1
                refine ⟨⟨i + 1, by go_num, by omega, hid (by simp only [outB]; rw [HBB.out]; simpa using ho5), hid (fun k hk => ?_), hid ?_, by omega, hid hb5⟩, by simp [intOf]; omega⟩
                · rcases hn5 k hk with r | r
                  · exact hkx k r
                  · omega
                · refine ((Kept.alloc HK.out (.cells #[.int .u8 i] 5)).then_ (hka : Kept (wr.alloc _) _ _) (fun k hk => ?_)).then_ hk5 (fun k hk => ?_)
                  · have := HN.out k hk; right; simp; omega
                  · have := hkx k hk; right; simp; omega
            · obtain rfl : i = 3 := by omega
              have hout : outB p 3 = putB ⟨b1, b2, b3, m, f, l⟩ := by rw [HP.out]; exact outB_put ⟨b1, b2, b3, m, f, l⟩
              have hcv := own_str HO.out
              rw [hout] at hcv
              clear hout
              go_wp2
              refine bodyPost_ret (v := .tuple #[.string (strOfNums (putB ⟨b1, b2, b3, m, f, l⟩)), .int .i64 0]) ?_ rfl ⟨rfl, HB.out⟩
              simp [results, Tryd.results11, go_sem]
end Go.Proofs.YtiohiiekaofkbaaDoor
/- What the chapter's example says: awake. -/
namespace Go.Proofs.YtiohiiekaofkbaaDoor
set_option linter.unusedVariables false
set_option linter.unusedSimpArgs false
open Go.RowKit Go.Proofs.YtiohiiekaofkbaaDoor.PNamesBack Go.Proofs.YtiohiiekaofkbaaDoorW.PrintWords
def exN : Ns := ⟨true, false, false, ⟨#[109]⟩, [], []⟩
theorem ex_right : nrightB exN = true := by decide
theorem ex_put : strOfNums (putB exN) = ⟨#[0, 2, 1, 109]⟩ := by
  have h1 : putB exN = [0, 2, 1, 109] := by
    simp only [putB, exN, sec, txt, if_true, Bool.false_eq_true, if_false, List.append_nil]
    have e : bytesOf ⟨#[109]⟩ = [109] := rfl
    have z : (⟨#[109]⟩ : ByteArray).size = 1 := rfl
    have u1 : uL ((1 : Nat) : Int) = [1] := uL_small (by omega)
    have u2 : uL ((2 : Nat) : Int) = [2] := uL_small (by omega)
    rw [e, z, u1]
    show (0 : Int) :: (uL ((2 : Nat) : Int) ++ [1, 109]) = _
    rw [u2]
    rfl
  rw [h1]; rfl
theorem ex_walk (w : World) : Calls Tryd.prog 11 #[.agg #[.bool true, .bool false, .bool false, .string ⟨#[109]⟩, .slice none 0 0, .slice none 0 0]] w fun e w' => e = .returned (.tuple #[.string ⟨#[0, 2, 1, 109]⟩, .int .i64 0]) ∧ Below w.heap.size w w' := by
  have h := put_walk exN none 0 none 0 w ⟨Kd.C_nil _ _, Nat.le_refl _, Kd.C_nil _ _, Nat.le_refl _⟩ ⟨by decide, by decide, by decide, fun i hi => absurd hi (by simp [exN]), fun i hi => absurd hi (by simp [exN])⟩
    ⟨fun x hx => by simp [exN] at hx, fun x hx => by simp [exN] at hx, by have := txt_len exN.md (by decide); have : exN.md.size = 1 := rfl; omega, by simp [exN, nlB, nmsB]; have := uL_max 0 (by omega) (by omega); omega, by simp [exN, llB, losB]; have := uL_max 0 (by omega) (by omega); omega⟩
  rw [ex_right, ex_put] at h
  exact h
set_option maxRecDepth 100000 in
set_option maxHeartbeats 1000000 in
theorem awake14_walk (w : World) : Calls Tryd.prog 16 #[] w fun e w' => e = .returned (.bool true) ∧ Below w.heap.size w w' := by
  go_enter Tryd.func16, Tryd.ntmps16
  go_wp2_with (first | (go_at_call 11; refine (ex_walk _).mono ?_; rintro e w' ⟨rfl, hb1⟩))
  go_ret
  exact ⟨rfl, hb1⟩
end Go.Proofs.YtiohiiekaofkbaaDoor
