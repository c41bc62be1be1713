/- The walk of the statement WtypeBack. -/
import Derived.Test.YtiohiiekaofkbaaDoorW16
namespace Go.Proofs.YtiohiiekaofkbaaDoor
set_option linter.unusedVariables false
set_option linter.unusedSimpArgs false
open Go.RowKit Go.Proofs.YtiohiiekaofkbaaDoor.PWtypePuts Go.Proofs.YtiohiiekaofkbaaDoorW.PrintWords

theorem cv_of {w : World} {b : Nat} {A : Option Addr} {n c : Nat} {l : List Int} (h : OwnV w b (.slice A n c) l) : CV w A l :=
  (Kd.R_reads' (Kd.R_of_own (h1 := fun _ => rfl) (ok := fun _ => True) h (fun _ _ => trivial) : Kd.R (Kd.int .u8) 60 w b (fun _ => True) (.slice A n c) l)).2.2
theorem gm_eq {gm : Bool} : decide (bitB gm = 1) = gm := by cases gm <;> decide
theorem three_new (wr : World) : (((wr.alloc (.cells #[.slice none 0 0, .slice none 0 0] 56)).alloc (.cells #[.int .u8 0, .bool false] 65)).alloc (.cells #[.int .u8 0, .bool false, .int .u32 0, .int .u32 0] 62)).heap[wr.heap.size]? = some (.cells #[.slice none 0 0, .slice none 0 0] 56 (0, 0)) ∧ (((wr.alloc (.cells #[.slice none 0 0, .slice none 0 0] 56)).alloc (.cells #[.int .u8 0, .bool false] 65)).alloc (.cells #[.int .u8 0, .bool false, .int .u32 0, .int .u32 0] 62)).heap[wr.heap.size + 1]? = some (.cells #[.int .u8 0, .bool false] 65 (0, 0)) ∧ (((wr.alloc (.cells #[.slice none 0 0, .slice none 0 0] 56)).alloc (.cells #[.int .u8 0, .bool false] 65)).alloc (.cells #[.int .u8 0, .bool false, .int .u32 0, .int .u32 0] 62)).heap[wr.heap.size + 1 + 1]? = some (.cells #[.int .u8 0, .bool false, .int .u32 0, .int .u32 0] 62 (0, 0)) ∧ Below wr.heap.size wr (((wr.alloc (.cells #[.slice none 0 0, .slice none 0 0] 56)).alloc (.cells #[.int .u8 0, .bool false] 65)).alloc (.cells #[.int .u8 0, .bool false, .int .u32 0, .int .u32 0] 62)) ∧ (((wr.alloc (.cells #[.slice none 0 0, .slice none 0 0] 56)).alloc (.cells #[.int .u8 0, .bool false] 65)).alloc (.cells #[.int .u8 0, .bool false, .int .u32 0, .int .u32 0] 62)).heap.size = wr.heap.size + 3 := by
  have e1 : (wr.alloc (.cells #[.slice none 0 0, .slice none 0 0] 56)).heap.size = wr.heap.size + 1 := by simp
  have e2 : ((wr.alloc (.cells #[.slice none 0 0, .slice none 0 0] 56)).alloc (.cells #[.int .u8 0, .bool false] 65)).heap.size = wr.heap.size + 1 + 1 := by simp
  refine ⟨blkB (blkB (blkN wr _) (Below.alloc (Below.refl _ _) (Nat.le_refl _) _)) (Below.alloc (Below.refl _ _) (Nat.le_refl _) _), ?_, ?_, (by repeat (first | exact Below.refl _ _ | assumption | refine Below.alloc ?_ (by first | exact Nat.le_refl _ | (simp; done) | (simp; omega) | omega) _ | refine Below.drew ?_ | refine Below.setCell ?_ (by first | exact Nat.le_refl _ | (simp; done) | (simp; omega) | omega) _ | refine below_call ?_ (by assumption) (by first | exact Nat.le_refl _ | (simp; done) | (simp; omega) | omega))), by simp⟩
  · have := blkN (wr.alloc (.cells #[.slice none 0 0, .slice none 0 0] 56)) (.cells #[.int .u8 0, .bool false] 65)
    rw [e1] at this
    exact blkB this (Below.alloc (Below.refl _ _) (Nat.le_refl _) _)
  · have := blkN ((wr.alloc (.cells #[.slice none 0 0, .slice none 0 0] 56)).alloc (.cells #[.int .u8 0, .bool false] 65)) (.cells #[.int .u8 0, .bool false, .int .u32 0, .int .u32 0] 62)
    rw [e2] at this
    exact this
theorem twelve_at {W : World} {B : Nat} {a0 a1 a2 a3 a4 a5 a6 a7 a8 a9 a10 a11 : Value} {t : TypeId} (h : W.heap[B]? = some (.cells #[a0, a1, a2, a3, a4, a5, a6, a7, a8, a9, a10, a11] t (0, 0))) :
    W.cell? ⟨B, 0, none⟩ = some a0 ∧ W.cell? ⟨B, 1, none⟩ = some a1 ∧ W.cell? ⟨B, 2, none⟩ = some a2 ∧ W.cell? ⟨B, 3, none⟩ = some a3 ∧ W.cell? ⟨B, 4, none⟩ = some a4 ∧ W.cell? ⟨B, 5, none⟩ = some a5 ∧ W.cell? ⟨B, 6, none⟩ = some a6 ∧ W.cell? ⟨B, 7, none⟩ = some a7 ∧ W.cell? ⟨B, 8, none⟩ = some a8 ∧ W.cell? ⟨B, 9, none⟩ = some a9 ∧ W.cell? ⟨B, 10, none⟩ = some a10 ∧ W.cell? ⟨B, 11, none⟩ = some a11 ∧ W.frozen? ⟨B, 9, none⟩ = false := by
  simp [World.cell?, World.frozen?, h]
set_option maxRecDepth 100000 in
set_option maxHeartbeats 16000000 in
theorem wback_walk (vv : Int) (p r : ByteArray) (lm : Bool) (la lb tv : Int) (tm : Bool) (ta tb gv : Int) (gm : Bool) (more : Int) (w : World) (hG : Glob w) (hO : GlobO w) (hS : GlobS w) (hN : GlobN w) (hsz : 6 ≤ w.heap.size) (tv0 : 0 ≤ tv ∧ tv < 256) (gv0 : 0 ≤ gv ∧ gv < 256) (m0 : 0 ≤ more) (m1 : more < 256) (ta0 : 0 ≤ ta) (ta1 : ta ≤ 4294967295) (tb0 : 0 ≤ tb) (tb1 : tb ≤ 4294967295) :
    Calls Tryd.prog 5 #[.agg #[.int .u8 vv, .string p, .string r, .bool lm, .int .u32 la, .int .u32 lb, .int .u8 tv, .bool tm, .int .u32 ta, .int .u32 tb, .int .u8 gv, .bool gm], .int .u8 more] w fun e w' => e = .returned (.bool true) ∧ Below w.heap.size w w' := by
  have hub := Tryd.underlying53
  by_cases h1 : p.size ≤ 300
  case neg =>
    go_enter Tryd.func5, Tryd.ntmps5
    go_wp2
    go_ret
    exact ⟨rfl, (by repeat (first | exact Below.refl _ _ | assumption | refine Below.alloc ?_ (by first | exact Nat.le_refl _ | (simp; done) | (simp; omega) | omega) _ | refine Below.drew ?_ | refine Below.setCell ?_ (by first | exact Nat.le_refl _ | (simp; done) | (simp; omega) | omega) _ | refine below_call ?_ (by assumption) (by first | exact Nat.le_refl _ | (simp; done) | (simp; omega) | omega)))⟩
  by_cases h2 : r.size ≤ 300
  case neg =>
    go_enter Tryd.func5, Tryd.ntmps5
    go_wp2
    go_ret
    exact ⟨rfl, (by repeat (first | exact Below.refl _ _ | assumption | refine Below.alloc ?_ (by first | exact Nat.le_refl _ | (simp; done) | (simp; omega) | omega) _ | refine Below.drew ?_ | refine Below.setCell ?_ (by first | exact Nat.le_refl _ | (simp; done) | (simp; omega) | omega) _ | refine below_call ?_ (by assumption) (by first | exact Nat.le_refl _ | (simp; done) | (simp; omega) | omega)))⟩
  have HVP := hid (fun W => rvals_walk p W (by omega))
  have HVR := hid (fun W => rvals_walk r W (by omega))
  have HRF := hid (fun W => rref_walk tv W)
  have HRV := hid (fun W => rval_walk gv W)
  obtain ⟨bp, hbp⟩ : ∃ b, valsB p = b := ⟨_, rfl⟩
  obtain ⟨br, hbr⟩ : ∃ b, valsB r = b := ⟨_, rfl⟩
  obtain ⟨bt, hbt⟩ : ∃ b, refV tv = b := ⟨_, rfl⟩
  obtain ⟨bg, hbg⟩ : ∃ b, valV gv = b := ⟨_, rfl⟩
  rw [hbp] at HVP
  rw [hbr] at HVR
  rw [hbt] at HRF
  rw [hbg] at HRV
  have HBS := hid (And.intro hbp (And.intro hbr (And.intro hbt hbg)))
  have HGS := hid (And.intro hG (And.intro hO (And.intro hS hN)))
  have TV := hid tv0
  have GV := hid gv0
  clear hbp hbr hbt hbg hG hO hS hN tv0 gv0
  go_enter Tryd.func5, Tryd.ntmps5
  go_upto_region 1 with (fail)
  obtain ⟨w0, hw0⟩ : ∃ w0, w0 = w.alloc (.cells #[.int .u8 vv, .string p, .string r, .bool lm, .int .u32 la, .int .u32 lb, .int .u8 tv, .bool tm, .int .u32 ta, .int .u32 tb, .int .u8 gv, .bool gm] 53) := ⟨_, rfl⟩
  have KX := hid (show w0.heap[w.heap.size]? = some (.cells #[.int .u8 vv, .string p, .string r, .bool lm, .int .u32 la, .int .u32 lb, .int .u8 tv, .bool tm, .int .u32 ta, .int .u32 tb, .int .u8 gv, .bool gm] 53 (0, 0)) by rw [hw0]; exact blkN w _)
  have KB := hid (show Below w.heap.size w w0 by rw [hw0]; exact (by repeat (first | exact Below.refl _ _ | assumption | refine Below.alloc ?_ (by first | exact Nat.le_refl _ | (simp; done) | (simp; omega) | omega) _ | refine Below.drew ?_ | refine Below.setCell ?_ (by first | exact Nat.le_refl _ | (simp; done) | (simp; omega) | omega) _ | refine below_call ?_ (by assumption) (by first | exact Nat.le_refl _ | (simp; done) | (simp; omega) | omega))))
  rw [← hw0]
  clear hw0
  have XL := hid (fun W (h : Below w0.heap.size w0 W) => twelve_at (blkB KX.out h))
  obtain ⟨x0, x1, x2, x3, x4, x5, x6, x7, x8, x9, x10, x11, xf⟩ := XL.out w0 (Below.refl _ _)
  go_cut [53] (fun s53 wx => s53 = .bool (!(bp && (br && (bt && bg)))) ∧ Hid (Below w0.heap.size w0 wx))
  case first =>
    cases bp with
    | false =>
      go_wp2_with (first | (go_at_call 22; (with_reducible refine (HVP.out _).mono ?_); rintro e w1 ⟨rfl, hb1⟩; have KB1 := hid hb1; obtain ⟨x0, x1, x2, x3, x4, x5, x6, x7, x8, x9, x10, x11, xf⟩ := XL.out _ KB1.out) | (go_at_call 22; (with_reducible refine (HVR.out _).mono ?_); rintro e w2 ⟨rfl, hb2⟩; have KB1 := hid (KB1.out.trans (hb2.mono KB1.out.size)); obtain ⟨x0, x1, x2, x3, x4, x5, x6, x7, x8, x9, x10, x11, xf⟩ := XL.out _ KB1.out) | (go_at_call 23; (with_reducible refine (HRF.out _).mono ?_); rintro e w3 ⟨rfl, hb3⟩; have KB1 := hid (KB1.out.trans (hb3.mono KB1.out.size)); obtain ⟨x0, x1, x2, x3, x4, x5, x6, x7, x8, x9, x10, x11, xf⟩ := XL.out _ KB1.out) | (go_at_call 28; (with_reducible refine (HRV.out _).mono ?_); rintro e w4 ⟨rfl, hb4⟩; have KB1 := hid (KB1.out.trans (hb4.mono KB1.out.size))))
      go_meet
      exact ⟨rfl, KB1⟩
    | true =>
      cases br with
      | false =>
        go_wp2_with (first | (go_at_call 22; (with_reducible refine (HVP.out _).mono ?_); rintro e w1 ⟨rfl, hb1⟩; have KB1 := hid hb1; obtain ⟨x0, x1, x2, x3, x4, x5, x6, x7, x8, x9, x10, x11, xf⟩ := XL.out _ KB1.out) | (go_at_call 22; (with_reducible refine (HVR.out _).mono ?_); rintro e w2 ⟨rfl, hb2⟩; have KB1 := hid (KB1.out.trans (hb2.mono KB1.out.size)); obtain ⟨x0, x1, x2, x3, x4, x5, x6, x7, x8, x9, x10, x11, xf⟩ := XL.out _ KB1.out) | (go_at_call 23; (with_reducible refine (HRF.out _).mono ?_); rintro e w3 ⟨rfl, hb3⟩; have KB1 := hid (KB1.out.trans (hb3.mono KB1.out.size)); obtain ⟨x0, x1, x2, x3, x4, x5, x6, x7, x8, x9, x10, x11, xf⟩ := XL.out _ KB1.out) | (go_at_call 28; (with_reducible refine (HRV.out _).mono ?_); rintro e w4 ⟨rfl, hb4⟩; have KB1 := hid (KB1.out.trans (hb4.mono KB1.out.size))))
        go_meet
        exact ⟨rfl, KB1⟩
      | true =>
        cases bt with
        | false =>
          go_wp2_with (first | (go_at_call 22; (with_reducible refine (HVP.out _).mono ?_); rintro e w1 ⟨rfl, hb1⟩; have KB1 := hid hb1; obtain ⟨x0, x1, x2, x3, x4, x5, x6, x7, x8, x9, x10, x11, xf⟩ := XL.out _ KB1.out) | (go_at_call 22; (with_reducible refine (HVR.out _).mono ?_); rintro e w2 ⟨rfl, hb2⟩; have KB1 := hid (KB1.out.trans (hb2.mono KB1.out.size)); obtain ⟨x0, x1, x2, x3, x4, x5, x6, x7, x8, x9, x10, x11, xf⟩ := XL.out _ KB1.out) | (go_at_call 23; (with_reducible refine (HRF.out _).mono ?_); rintro e w3 ⟨rfl, hb3⟩; have KB1 := hid (KB1.out.trans (hb3.mono KB1.out.size)); obtain ⟨x0, x1, x2, x3, x4, x5, x6, x7, x8, x9, x10, x11, xf⟩ := XL.out _ KB1.out) | (go_at_call 28; (with_reducible refine (HRV.out _).mono ?_); rintro e w4 ⟨rfl, hb4⟩; have KB1 := hid (KB1.out.trans (hb4.mono KB1.out.size))))
          go_meet
          exact ⟨rfl, KB1⟩
        | true =>
          go_wp2_with (first | (go_at_call 22; (with_reducible refine (HVP.out _).mono ?_); rintro e w1 ⟨rfl, hb1⟩; have KB1 := hid hb1; obtain ⟨x0, x1, x2, x3, x4, x5, x6, x7, x8, x9, x10, x11, xf⟩ := XL.out _ KB1.out) | (go_at_call 22; (with_reducible refine (HVR.out _).mono ?_); rintro e w2 ⟨rfl, hb2⟩; have KB1 := hid (KB1.out.trans (hb2.mono KB1.out.size)); obtain ⟨x0, x1, x2, x3, x4, x5, x6, x7, x8, x9, x10, x11, xf⟩ := XL.out _ KB1.out) | (go_at_call 23; (with_reducible refine (HRF.out _).mono ?_); rintro e w3 ⟨rfl, hb3⟩; have KB1 := hid (KB1.out.trans (hb3.mono KB1.out.size)); obtain ⟨x0, x1, x2, x3, x4, x5, x6, x7, x8, x9, x10, x11, xf⟩ := XL.out _ KB1.out) | (go_at_call 28; (with_reducible refine (HRV.out _).mono ?_); rintro e w4 ⟨rfl, hb4⟩; have KB1 := hid (KB1.out.trans (hb4.mono KB1.out.size))))
          go_meet
          have d1 : decide (300 < (p.size : Int)) = false := decide_eq_false (by omega)
          have d2 : decide (300 < (r.size : Int)) = false := decide_eq_false (by omega)
          exact ⟨by rw [d1, d2]; cases bg <;> rfl, KB1⟩
  case rest =>
    obtain ⟨rfl, KB1⟩ := hcut
    obtain ⟨bb, hbb⟩ : ∃ b, (bp && (br && (bt && bg))) = b := ⟨_, rfl⟩
    rw [hbb]
    cases bb with
    | false =>
      go_wp2
      go_ret
      exact ⟨rfl, KB.out.trans (KB1.out.mono KB.out.size)⟩
    | true =>
      simp only [Bool.and_eq_true] at hbb
      obtain ⟨rfl, rfl, rfl, rfl⟩ := hbb
      obtain ⟨x0, x1, x2, x3, x4, x5, x6, x7, x8, x9, x10, x11, xf⟩ := XL.out _ KB1.out
      go_upto_if 58 with (fail)
      have HBT := hid (KB.out.trans (KB1.out.mono KB.out.size))
      go_cut [4] (fun s4 wx => s4 = .bool false ∧ ∃ tbE, tbE = (if tm then tb else 0) ∧ (wx.cell? ⟨w.heap.size, 0, none⟩ = some (.int .u8 vv) ∧ wx.cell? ⟨w.heap.size, 1, none⟩ = some (.string p) ∧ wx.cell? ⟨w.heap.size, 2, none⟩ = some (.string r) ∧ wx.cell? ⟨w.heap.size, 3, none⟩ = some (.bool lm) ∧ wx.cell? ⟨w.heap.size, 4, none⟩ = some (.int .u32 la) ∧ wx.cell? ⟨w.heap.size, 5, none⟩ = some (.int .u32 lb) ∧ wx.cell? ⟨w.heap.size, 6, none⟩ = some (.int .u8 tv) ∧ wx.cell? ⟨w.heap.size, 7, none⟩ = some (.bool tm) ∧ wx.cell? ⟨w.heap.size, 8, none⟩ = some (.int .u32 ta) ∧ wx.cell? ⟨w.heap.size, 9, none⟩ = some (.int .u32 tbE) ∧ wx.cell? ⟨w.heap.size, 10, none⟩ = some (.int .u8 gv) ∧ wx.cell? ⟨w.heap.size, 11, none⟩ = some (.bool gm)) ∧ Hid (Below w.heap.size w wx))
      case first =>
        cases tm with
        | true =>
          go_wp2
          go_meet
          exact ⟨rfl, tb, rfl, ⟨x0, x1, x2, x3, x4, x5, x6, x7, x8, x9, x10, x11⟩, HBT⟩
        | false =>
          go_wp2
          go_meet
          exact ⟨rfl, 0, rfl, ⟨by go_simp, by go_simp, by go_simp, by go_simp, by go_simp, by go_simp, by go_simp, by go_simp, by go_simp, by go_simp, by go_simp, by go_simp⟩, hid (HBT.out.setCell (p := ⟨w.heap.size, 9, none⟩) (Nat.le_refl _) _)⟩
      case rest =>
        obtain ⟨rfl, tbE, htb, hx, HBW⟩ := hcut
        have htE : 0 ≤ tbE ∧ tbE ≤ 4294967295 ∧ (if tm then tbE else 0) = tbE := by rw [htb]; cases tm <;> simp <;> omega
        have HTE := hid htE
        obtain ⟨te0, te1, _⟩ := htE
        have HX := hid hx
        clear htb hx x0 x1 x2 x3 x4 x5 x6 x7 x8 x9 x10 x11 xf
        have hn : 0 ≤ more % 5 ∧ more % 5 ≤ 4 := by omega
        obtain ⟨nn, hnn⟩ : ∃ nn, nn = more % 5 := ⟨_, rfl⟩
        go_upto_region 6 with (fail)
        rw [← hnn]
        obtain ⟨nn0, nn1⟩ : 0 ≤ nn ∧ nn ≤ 4 := by omega
        clear hnn hn
        refine wb6 _ w.heap.size vv p r lm la lb tv tm ta tbE gv gm wc wc nn HX.out (Below.refl _ _) h1 h2 ta0 ta1 te0 te1 nn0 nn1 GV.out TV.out ?_
        intro q65 q66 q67 q68 q69 q70 q71 q72 q73 q74 q75 q76 q77 q78 B ab cB W1 hB1 hBw hb0 hf0 hbt hne hadw had
        dsimp only
        have K1 := hid hB1
        have BT1 := hid hbt
        have HAD := hid (And.intro hadw had)
        clear hB1 hbt hadw had
        go_upto_region 7 with (fail)
        refine wb7 _ w.heap.size vv p r lm la lb tv tm ta tbE gv gm W1 W1 (keepX12 HX.out K1.out).2 (Below.refl _ _) h1 h2 ta0 ta1 te0 te1 ?_
        intro m79 m80 m81 m82 m83 m84 m85 m86 m87 m88 m89 m90 ab2 c2 W2 hB2 hO2 hbt2 hadw2 had2
        dsimp only
        have K2 := hid hB2
        have BT2 := hid hbt2
        have HAD2 := hid (And.intro hadw2 had2)
        have lB := cell_lt hb0
        have b0 := still K2.out hb0
        have f0 := (K2.out.frozen (p := ⟨B, 0, none⟩) lB).trans hf0
        have HF0 := hid f0
        have BT1' := hid (BT1.out.below K2.out)
        have hAB2 := hid (show ab2 ≠ B by omega)
        have hAB := hid hne
        have ad1 := HAD.out.2
        have LZ := hid (allB3_len p r gv gm tv tm ta tbE nn h1 h2 ta0 ta1 te0 te1 nn0)
        have LZ1 := LZ
        have LZ2 := hid (allB3_len p r gv gm tv tm ta tbE 0 h1 h2 ta0 ta1 te0 te1 (by omega))
        clear hB2 hO2 hbt2 hadw2 had2 hb0 hf0 hne f0
        obtain ⟨hp1, hr1, ht1, hg1⟩ := HBS.out
        have RD1 := hid (allB3_reads p r gv gm tv tm ta tbE nn h1 h2 hp1 hr1 hg1 ht1 ta0 ta1 te0 te1 nn0)
        have RD2 := hid (allB3_reads p r gv gm tv tm ta tbE 0 h1 h2 hp1 hr1 hg1 ht1 ta0 ta1 te0 te1 (by omega))
        have BY1 := hid (allB3_bytes p r gv gm tv tm ta tbE nn h1 h2 GV.out.1 GV.out.2 TV.out.1 TV.out.2 ta0 ta1 te0 te1 nn0)
        have BY2 := hid (allB3_bytes p r gv gm tv tm ta tbE 0 h1 h2 GV.out.1 GV.out.2 TV.out.1 TV.out.2 ta0 ta1 te0 te1 (by omega))
        have EQ := hid (fun (h : nn = 0) => show allB3 p r gv gm tv tm ta tbE nn = allB3 p r gv gm tv tm ta tbE 0 by rw [h])
        clear hp1 hr1 ht1 hg1
        rw [HTE.out.2.2] at RD1 RD2
        generalize allB3 p r gv gm tv tm ta tbE nn = L1 at *
        generalize allB3 p r gv gm tv tm ta tbE 0 = L2 at *
        have HXW := hid (keepX12 HX.out (K1.out.trans (K2.out.mono K1.out.size))).2
        have HBw2 := hid (HBW.out.trans ((K1.out.trans (K2.out.mono K1.out.size)).mono HBW.out.size))
        go_upto_region 8 with (fail)
        go_cut [99] (fun s99 wx => s99 = .bool false ∧ wx = W2)
        case first =>
          by_cases hz : nn = 0
          · obtain rfl := EQ.out hz
            subst hz
            have hcvA := conv_row (c := c2) BT2.out
            have hcvB := conv_row (c := cB) BT1'.out
            go_wp2
            go_meet
            exact ⟨by simp, rfl⟩
          · go_wp2
            go_meet
            exact ⟨by simp, rfl⟩
        case rest =>
          obtain ⟨rfl, rfl⟩ := hcut
          have hBX : B ≠ w.heap.size := by have := cell_lt HX.out.1; omega
          have hBw9 : w.heap.size ≤ B := Nat.le_trans HBW.out.size hBw
          clear HBS HTE TV GV EQ LZ
          go_wp2
          go_loopw [8] (fun v8 wr => ∃ k : Nat, v8 = .int .i64 k ∧ k ≤ 2 ∧ w.heap.size ≤ wr.heap.size ∧ ∃ (Lk : List Int) (abk ck : Nat), wr.cell? ⟨B, 0, none⟩ = some (.slice (some ⟨abk, 0, none⟩) Lk.length ck) ∧ wr.frozen? ⟨B, 0, none⟩ = false ∧ Hid (BytesAt (some ⟨abk, 0, none⟩) Lk wr) ∧ abk < wr.heap.size ∧ Lk.length ≤ 700 ∧ Hid (ByteL Lk) ∧ Hid (∃ p1 p2, ReadsW Lk Lk.length (bytesOf p) (bytesOf r) gv (bitB gm) tv tm ta tbE p1 p2) ∧ Hid (BytesAt (some ⟨ab2, 0, none⟩) L2 wr) ∧ ab2 < wr.heap.size ∧ Hid (wr.cell? ⟨w.heap.size, 0, none⟩ = some (.int .u8 vv) ∧ wr.cell? ⟨w.heap.size, 1, none⟩ = some (.string p) ∧ wr.cell? ⟨w.heap.size, 2, none⟩ = some (.string r) ∧ wr.cell? ⟨w.heap.size, 3, none⟩ = some (.bool lm) ∧ wr.cell? ⟨w.heap.size, 4, none⟩ = some (.int .u32 la) ∧ wr.cell? ⟨w.heap.size, 5, none⟩ = some (.int .u32 lb) ∧ wr.cell? ⟨w.heap.size, 6, none⟩ = some (.int .u8 tv) ∧ wr.cell? ⟨w.heap.size, 7, none⟩ = some (.bool tm) ∧ wr.cell? ⟨w.heap.size, 8, none⟩ = some (.int .u32 ta) ∧ wr.cell? ⟨w.heap.size, 9, none⟩ = some (.int .u32 tbE) ∧ wr.cell? ⟨w.heap.size, 10, none⟩ = some (.int .u8 gv) ∧ wr.cell? ⟨w.heap.size, 11, none⟩ = some (.bool gm)) ∧ Hid (Below w.heap.size w wr)) (fun v8 _ => 2 - (intOf v8).toNat)
          case atStart => exact ⟨0, by go_num, by omega, HBw2.out.size, L1, ab, cB, b0, HF0.out, BT1', Nat.lt_of_lt_of_le HAD.out.2 K2.out.size, LZ1.out.1, BY1, RD1, BT2, HAD2.out.2, HXW, HBw2⟩
          case round =>
            obtain ⟨k, rfl, hk2, hszr, Lk, abk, ck, hbk, hfk, HBk, hadk, hLk, HYk, HRk, HB2k, had2k, HXk, HBr⟩ := hrel
            by_cases hk : k < 2
            · obtain ⟨t1, t2, t3, t4, t5⟩ := three_new wr
              obtain ⟨pp1, pp2, hRD⟩ := HRk.out
              have HCH := hid t4
              have HTR := hid (tryW_walk (((wr.alloc (.cells #[.slice none 0 0, .slice none 0 0] 56)).alloc (.cells #[.int .u8 0, .bool false] 65)).alloc (.cells #[.int .u8 0, .bool false, .int .u32 0, .int .u32 0] 62)) wr.heap.size (wr.heap.size + 1) (wr.heap.size + 1 + 1) B ⟨abk, 0, none⟩ ck Lk (bytesOf p) (bytesOf r) gv (bitB gm) tv tm ta tbE pp1 pp2
                (HGS.out.1.of (HBr.out.trans (t4.mono hszr))) ⟨still (HBr.out.trans (t4.mono hszr)) HGS.out.2.1.c0, still (HBr.out.trans (t4.mono hszr)) HGS.out.2.1.c1⟩ ⟨still (HBr.out.trans (t4.mono hszr)) HGS.out.2.2.1.c0, still (HBr.out.trans (t4.mono hszr)) HGS.out.2.2.1.c1⟩ ⟨still (HBr.out.trans (t4.mono hszr)) HGS.out.2.2.2.c0, still (HBr.out.trans (t4.mono hszr)) HGS.out.2.2.2.c1⟩
                (by omega) HYk.out (by rw [bytesOf_length]; omega) (by rw [bytesOf_length]; omega) hRD (HBk.out.below t4) (by show abk < _; rw [t5]; omega) t1 t2 t3 (by omega) (by omega) (by omega) ⟨by show abk ≠ _; omega, by show abk ≠ _; omega, by show abk ≠ _; omega⟩ (by intro b hb; omega) (still t4 hbk))
              have HSZ := hid t5
              have hbk0 := still t4 hbk
              clear t1 t2 t3 t4 t5 hRD
              go_upto_region 17 with (first | (go_at_call 43; go_loud ((with_reducible refine HTR.out.mono ?_); rintro e w3 ⟨rfl, HFr, HGot⟩; have HFr := hid HFr; have HGot := hid HGot)))
              obtain ⟨⟨v0, v1, o0, o1, c0v, c1v⟩, g0, g1, t0, t1, t2, t3⟩ := HGot.out
              obtain ⟨A0, cc0, rfl⟩ := o0.slice
              obtain ⟨A1, cc1, rfl⟩ := o1.slice
              have C0 := cv_of o0
              have C1 := cv_of o1
              rw [gm_eq] at g1
              have hB3 : Below wr.heap.size wr w3 := HCH.out.trans (HFr.out.below wr.heap.size HCH.out.size (fun i hi => by omega))
              have HB3 := hid hB3
              obtain ⟨x0, x1, x2, x3, x4, x5, x6, x7, x8, x9, x10, x11⟩ := (keepX12 HXk.out hB3).2
              refine wb17 _ w.heap.size vv p r lm la lb tv tm ta tbE gv gm B wr.heap.size (wr.heap.size + 1) (wr.heap.size + 1 + 1) ⟨abk, 0, none⟩ Lk ck cc0 cc1 A0 A1 w3 ⟨x0, x1, x2, x3, x4, x5, x6, x7, x8, x9, x10, x11, still hB3 hbk, c0v, c1v, g0, g1, t0, t1, t2, t3⟩ h1 h2 (by omega) C0 C1 ?_
              intro z110 z111 z112 z113 z114 z115 z116 z117 z118 z119 z120 z121 z122 z123 z124 z125 z126 z127 z128 z129 z130 z131 z132 z133 z134 z135 z136 z137 W5 hB5
              dsimp only
              have K5 := hid (HB3.out.trans (hB5.mono HB3.out.size))
              have b5 := still K5.out hbk
              have f5 := (K5.out.frozen (p := ⟨B, 0, none⟩) (cell_lt hbk)).trans hfk
              have hsz5 := K5.out.size
              clear hB5 hB3 c0v c1v g0 g1 t0 t1 t2 t3 x0 x1 x2 x3 x4 x5 x6 x7 x8 x9 x10 x11 o0 o1 hbk0
              go_wp2
              go_roundw
              case rel =>
                have hx5 := (keepX12 HXk.out K5.out).2
                exact ⟨k + 1, by go_num, by omega, by simp; omega, L2, ab2, c2, World.cell?_setCell_same _ _ _ b5, (World.frozen?_setCell _ _ _ _).trans f5, hid ((HB2k.out.below K5.out).set (fun a e => by cases e; exact hAB2.out) _), by simp; omega, LZ2.out.1, BY2, RD2, hid ((HB2k.out.below K5.out).set (fun a e => by cases e; exact hAB2.out) _), by simp; omega,
                  hid ⟨far_cell hx5.1 hBX, far_cell hx5.2.1 hBX, far_cell hx5.2.2.1 hBX, far_cell hx5.2.2.2.1 hBX, far_cell hx5.2.2.2.2.1 hBX, far_cell hx5.2.2.2.2.2.1 hBX, far_cell hx5.2.2.2.2.2.2.1 hBX, far_cell hx5.2.2.2.2.2.2.2.1 hBX, far_cell hx5.2.2.2.2.2.2.2.2.1 hBX, far_cell hx5.2.2.2.2.2.2.2.2.2.1 hBX, far_cell hx5.2.2.2.2.2.2.2.2.2.2.1 hBX, far_cell hx5.2.2.2.2.2.2.2.2.2.2.2 hBX⟩, hid ((HBr.out.trans (K5.out.mono hszr)).setCell (p := ⟨B, 0, none⟩) hBw9 _)⟩
              case measure => simp [intOf]; omega
            · have hk3 : k = 2 := by omega
              have hGN : GlobN wr := ⟨still HBr.out HGS.out.2.2.2.c0, still HBr.out HGS.out.2.2.2.c1⟩
              have HGN := hid hGN
              clear hGN hk3
              go_wp2_with (first | (go_at_call 42; (with_reducible refine (awake05_walk _ HGN.out).mono ?_); rintro e w9 ⟨rfl, hb9⟩))
              go_ret
              exact ⟨rfl, HBr.out.trans (hb9.mono hszr)⟩
end Go.Proofs.YtiohiiekaofkbaaDoor
