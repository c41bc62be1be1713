/- The walk of the statement WtypePuts. -/
import Derived.Test.YtiohiiekaofkbaaDoorW11
namespace Go.Proofs.YtiohiiekaofkbaaDoor
set_option linter.unusedVariables false
set_option linter.unusedSimpArgs false
open Go.RowKit Go.Proofs.YtiohiiekaofkbaaDoor.PWtypePuts Go.Proofs.YtiohiiekaofkbaaDoorW.PrintWords

theorem keepC {X Y g5 g6 g7 g8 : Nat} {vv : Int} {p r s u : ByteArray} {lm : Bool} {la lb : Int} {tv : Int} {tm : Bool} {ta tb : Int} {gv : Int} {gm : Bool} {A0 A1 : Option Addr} {c0 c1 : Nat} {w0 wb : World} (hx : w0.cell? ⟨X, 0, none⟩ = some (.int .u8 vv) ∧ w0.cell? ⟨X, 1, none⟩ = some (.string p) ∧ w0.cell? ⟨X, 2, none⟩ = some (.string r) ∧ w0.cell? ⟨X, 3, none⟩ = some (.bool lm) ∧ w0.cell? ⟨X, 4, none⟩ = some (.int .u32 la) ∧ w0.cell? ⟨X, 5, none⟩ = some (.int .u32 lb) ∧ w0.cell? ⟨X, 6, none⟩ = some (.int .u8 tv) ∧ w0.cell? ⟨X, 7, none⟩ = some (.bool tm) ∧ w0.cell? ⟨X, 8, none⟩ = some (.int .u32 ta) ∧ w0.cell? ⟨X, 9, none⟩ = some (.int .u32 tb) ∧ w0.cell? ⟨X, 10, none⟩ = some (.int .u8 gv) ∧ w0.cell? ⟨X, 11, none⟩ = some (.bool gm)) (hy : w0.cell? ⟨Y, 0, none⟩ = some (.string s) ∧ w0.cell? ⟨Y, 1, none⟩ = some (.string u)) (hb : Below w0.heap.size w0 wb) (hc : wb.cell? ⟨g5, 0, none⟩ = some (.slice A0 (bytesOf p).length c0) ∧ wb.cell? ⟨g5, 1, none⟩ = some (.slice A1 (bytesOf r).length c1) ∧ wb.cell? ⟨g6, 0, none⟩ = some (.bool lm) ∧ wb.cell? ⟨g6, 1, none⟩ = some (.int .u32 la) ∧ wb.cell? ⟨g6, 2, none⟩ = some (.int .u32 lb) ∧ wb.cell? ⟨g7, 0, none⟩ = some (.int .u8 tv) ∧ wb.cell? ⟨g7, 1, none⟩ = some (.bool tm) ∧ wb.cell? ⟨g7, 2, none⟩ = some (.int .u32 ta) ∧ wb.cell? ⟨g7, 3, none⟩ = some (.int .u32 tb) ∧ wb.cell? ⟨g8, 0, none⟩ = some (.int .u8 gv) ∧ wb.cell? ⟨g8, 1, none⟩ = some (.bool gm)) : wb.cell? ⟨X, 0, none⟩ = some (.int .u8 vv) ∧ wb.cell? ⟨X, 1, none⟩ = some (.string p) ∧ wb.cell? ⟨X, 2, none⟩ = some (.string r) ∧ wb.cell? ⟨X, 3, none⟩ = some (.bool lm) ∧ wb.cell? ⟨X, 4, none⟩ = some (.int .u32 la) ∧ wb.cell? ⟨X, 5, none⟩ = some (.int .u32 lb) ∧ wb.cell? ⟨X, 6, none⟩ = some (.int .u8 tv) ∧ wb.cell? ⟨X, 7, none⟩ = some (.bool tm) ∧ wb.cell? ⟨X, 8, none⟩ = some (.int .u32 ta) ∧ wb.cell? ⟨X, 9, none⟩ = some (.int .u32 tb) ∧ wb.cell? ⟨X, 10, none⟩ = some (.int .u8 gv) ∧ wb.cell? ⟨X, 11, none⟩ = some (.bool gm) ∧ wb.cell? ⟨Y, 0, none⟩ = some (.string s) ∧ wb.cell? ⟨Y, 1, none⟩ = some (.string u) ∧ wb.cell? ⟨g5, 0, none⟩ = some (.slice A0 (bytesOf p).length c0) ∧ wb.cell? ⟨g5, 1, none⟩ = some (.slice A1 (bytesOf r).length c1) ∧ wb.cell? ⟨g6, 0, none⟩ = some (.bool lm) ∧ wb.cell? ⟨g6, 1, none⟩ = some (.int .u32 la) ∧ wb.cell? ⟨g6, 2, none⟩ = some (.int .u32 lb) ∧ wb.cell? ⟨g7, 0, none⟩ = some (.int .u8 tv) ∧ wb.cell? ⟨g7, 1, none⟩ = some (.bool tm) ∧ wb.cell? ⟨g7, 2, none⟩ = some (.int .u32 ta) ∧ wb.cell? ⟨g7, 3, none⟩ = some (.int .u32 tb) ∧ wb.cell? ⟨g8, 0, none⟩ = some (.int .u8 gv) ∧ wb.cell? ⟨g8, 1, none⟩ = some (.bool gm) :=
  ⟨still hb hx.1, still hb hx.2.1, still hb hx.2.2.1, still hb hx.2.2.2.1, still hb hx.2.2.2.2.1, still hb hx.2.2.2.2.2.1, still hb hx.2.2.2.2.2.2.1, still hb hx.2.2.2.2.2.2.2.1, still hb hx.2.2.2.2.2.2.2.2.1, still hb hx.2.2.2.2.2.2.2.2.2.1, still hb hx.2.2.2.2.2.2.2.2.2.2.1, still hb hx.2.2.2.2.2.2.2.2.2.2.2, still hb hy.1, still hb hy.2, hc⟩
/-- is a table's type right? -/
def tabR (v : Int) (m : Bool) (b : Int) : Bool := refV v && (m || b == 0)
set_option maxRecDepth 100000 in
set_option maxHeartbeats 8000000 in
theorem wputs_walk (vv : Int) (p r s u : ByteArray) (lm : Bool) (la lb tv : Int) (tm : Bool) (ta tb gv : Int) (gm : Bool) (w : World) (hG : GlobN w) (la0 : 0 ≤ la) (la1 : la ≤ 4294967295) (lb0 : 0 ≤ lb) (lb1 : lb ≤ 4294967295) (ta0 : 0 ≤ ta) (ta1 : ta ≤ 4294967295) (tb0 : 0 ≤ tb) (tb1 : tb ≤ 4294967295) :
    Calls Tryd.prog 4 #[.agg #[.int .u8 vv, .string p, .string r, .bool lm, .int .u32 la, .int .u32 lb, .int .u8 tv, .bool tm, .int .u32 ta, .int .u32 tb, .int .u8 gv, .bool gm], .agg #[.string s, .string u]] w fun e w' => e = .returned (.bool true) ∧ Below w.heap.size w w' := by
  by_cases h1 : p.size ≤ 300
  case neg =>
    go_enter Tryd.func4, Tryd.ntmps4
    go_wp2
    go_ret
    exact ⟨rfl, (by repeat (first | exact Below.refl _ _ | assumption | refine Below.alloc ?_ (by first | exact Nat.le_refl _ | (simp; done) | (simp; omega) | omega) _ | refine Below.drew ?_ | refine Below.setCell ?_ (by first | exact Nat.le_refl _ | (simp; done) | (simp; omega) | omega) _ | refine below_call ?_ (by assumption) (by first | exact Nat.le_refl _ | (simp; done) | (simp; omega) | omega)))⟩
  by_cases h2 : r.size ≤ 300
  case neg =>
    go_enter Tryd.func4, Tryd.ntmps4
    go_wp2
    go_ret
    exact ⟨rfl, (by repeat (first | exact Below.refl _ _ | assumption | refine Below.alloc ?_ (by first | exact Nat.le_refl _ | (simp; done) | (simp; omega) | omega) _ | refine Below.drew ?_ | refine Below.setCell ?_ (by first | exact Nat.le_refl _ | (simp; done) | (simp; omega) | omega) _ | refine below_call ?_ (by assumption) (by first | exact Nat.le_refl _ | (simp; done) | (simp; omega) | omega)))⟩
  by_cases h3 : s.size ≤ 300
  case neg =>
    go_enter Tryd.func4, Tryd.ntmps4
    go_wp2
    go_ret
    exact ⟨rfl, (by repeat (first | exact Below.refl _ _ | assumption | refine Below.alloc ?_ (by first | exact Nat.le_refl _ | (simp; done) | (simp; omega) | omega) _ | refine Below.drew ?_ | refine Below.setCell ?_ (by first | exact Nat.le_refl _ | (simp; done) | (simp; omega) | omega) _ | refine below_call ?_ (by assumption) (by first | exact Nat.le_refl _ | (simp; done) | (simp; omega) | omega)))⟩
  by_cases h4 : u.size ≤ 300
  case neg =>
    go_enter Tryd.func4, Tryd.ntmps4
    go_wp2
    go_ret
    exact ⟨rfl, (by repeat (first | exact Below.refl _ _ | assumption | refine Below.alloc ?_ (by first | exact Nat.le_refl _ | (simp; done) | (simp; omega) | omega) _ | refine Below.drew ?_ | refine Below.setCell ?_ (by first | exact Nat.le_refl _ | (simp; done) | (simp; omega) | omega) _ | refine below_call ?_ (by assumption) (by first | exact Nat.le_refl _ | (simp; done) | (simp; omega) | omega)))⟩
  have HGN := hid hG
  clear hG
  have hub := Tryd.underlying53
  go_enter Tryd.func4, Tryd.ntmps4
  go_upto_region 3 with (fail)
  obtain ⟨w0, hw0⟩ : ∃ w0, w0 = (w.alloc (.cells #[.int .u8 vv, .string p, .string r, .bool lm, .int .u32 la, .int .u32 lb, .int .u8 tv, .bool tm, .int .u32 ta, .int .u32 tb, .int .u8 gv, .bool gm] 53)).alloc (.cells #[.string s, .string u] 44) := ⟨_, rfl⟩
  have hx : w0.cell? ⟨w.heap.size, 0, none⟩ = some (.int .u8 vv) ∧ w0.cell? ⟨w.heap.size, 1, none⟩ = some (.string p) ∧ w0.cell? ⟨w.heap.size, 2, none⟩ = some (.string r) ∧ w0.cell? ⟨w.heap.size, 3, none⟩ = some (.bool lm) ∧ w0.cell? ⟨w.heap.size, 4, none⟩ = some (.int .u32 la) ∧ w0.cell? ⟨w.heap.size, 5, none⟩ = some (.int .u32 lb) ∧ w0.cell? ⟨w.heap.size, 6, none⟩ = some (.int .u8 tv) ∧ w0.cell? ⟨w.heap.size, 7, none⟩ = some (.bool tm) ∧ w0.cell? ⟨w.heap.size, 8, none⟩ = some (.int .u32 ta) ∧ w0.cell? ⟨w.heap.size, 9, none⟩ = some (.int .u32 tb) ∧ w0.cell? ⟨w.heap.size, 10, none⟩ = some (.int .u8 gv) ∧ w0.cell? ⟨w.heap.size, 11, none⟩ = some (.bool gm) := by
    rw [hw0]
    exact ⟨by go_simp, by go_simp, by go_simp, by go_simp, by go_simp, by go_simp, by go_simp, by go_simp, by go_simp, by go_simp, by go_simp, by go_simp⟩
  have hy : w0.cell? ⟨w.heap.size + 1, 0, none⟩ = some (.string s) ∧ w0.cell? ⟨w.heap.size + 1, 1, none⟩ = some (.string u) := by
    rw [hw0]
    exact ⟨by go_simp, by go_simp⟩
  have hB0 : Below w.heap.size w w0 := by rw [hw0]; exact (by repeat (first | exact Below.refl _ _ | assumption | refine Below.alloc ?_ (by first | exact Nat.le_refl _ | (simp; done) | (simp; omega) | omega) _ | refine Below.drew ?_ | refine Below.setCell ?_ (by first | exact Nat.le_refl _ | (simp; done) | (simp; omega) | omega) _ | refine below_call ?_ (by assumption) (by first | exact Nat.le_refl _ | (simp; done) | (simp; omega) | omega)))
  rw [← hw0]
  clear hw0
  have HX := hid hx
  have HY := hid hy
  have HB0 := hid hB0
  refine own3 _ w.heap.size p r lm la lb tv tm ta tb gv gm w0 (by omega) (by omega) hx.2 ?_
  intro g5 g6 g7 g8 v0 v1 s37 s38 s39 s40 s41 s42 s43 s44 s45 s46 s47 s48 base W hV hF
  obtain ⟨A0, c0, A1, c1, wb, hwc, hl0, hl1, hC0, hC1, hBc, hcells⟩ := after3 lm la lb tv tm ta tb gv gm hV hF
  have hwc2 := hwc
  unfold W3 at hwc2
  rw [hwc2]
  clear hwc hwc2 hV hF hx hy hB0
  dsimp only
  have HB1 := hid (HB0.out.trans (hBc.mono HB0.out.size))
  have HC := hid (keepC HX.out HY.out hBc hcells)
  have HF := hid (And.intro hC0 hC1)
  have HQ := hid (fun W (h : Below wb.heap.size wb W) => HGN.out.below (HB1.out.trans (h.mono HB1.out.size)))
  clear HX HY HB0 HGN hC0 hC1 hcells
  obtain ⟨bp, hbp⟩ : ∃ b, valsB p = b := ⟨_, rfl⟩
  obtain ⟨br, hbr⟩ : ∃ b, valsB r = b := ⟨_, rfl⟩
  have HVP := hid (fun W => rvals_walk p W (by omega))
  have HVR := hid (fun W => rvals_walk r W (by omega))
  rw [hbp] at HVP
  rw [hbr] at HVR
  have HBP := hid hbp
  have HBR := hid hbr
  clear hbp hbr
  go_upto_region 4 with (fail)
  go_cut [9] (fun s9 wx => s9 = .bool (bp && br) ∧ Hid (Below wb.heap.size wb wx))
  case first =>
    have x0 := HC.out
    cases bp with
    | false =>
      go_wp2_with (first | (go_at_call 22; (with_reducible refine (HVP.out _).mono ?_); rintro e w1 ⟨rfl, hb1⟩))
      go_meet
      exact ⟨rfl, hid hb1⟩
    | true =>
      go_wp2_with (first | (go_at_call 22; (with_reducible refine (HVP.out _).mono ?_); rintro e w1 ⟨rfl, hb1⟩; have x0 := (keepS x0 hb1).2; have hB1 := hb1) | (go_at_call 22; (with_reducible refine (HVR.out _).mono ?_); rintro e w2 ⟨rfl, hb2⟩))
      go_meet
      exact ⟨by simp, hid (hB1.trans (hb2.mono hB1.size))⟩
  case rest =>
    obtain ⟨rfl, KB⟩ := hcut
    obtain ⟨bl, hbl⟩ : ∃ b, (lm || lb == 0) = b := ⟨_, rfl⟩
    obtain ⟨bt, hbt⟩ : ∃ b, (refV tv && (tm || tb == 0)) = b := ⟨_, rfl⟩
    obtain ⟨bf, hbf⟩ : ∃ b, (bp && br) = b := ⟨_, rfl⟩
    have hbf2 : (valsB p && valsB r) = bf := by rw [HBP.out, HBR.out, hbf]
    rw [hbf]
    have HH := hid (And.intro hbl (And.intro hbt hbf2))
    clear hbl hbt hbf hbf2
    go_upto_region 5 with (fail)
    refine reg5 _ w.heap.size (w.heap.size + 1) g5 g6 g7 g8 vv p r s u lm la lb tv tm ta tb gv gm A0 A1 c0 c1 wb wc bl bt HC.out KB.out HH.out.2.1 HH.out.1 ?_
    intro q59 q60 q61 q62 q63 q64 q65 q66 q67 q68 q69 q70 q71 q72 q73 q74 q75 q76 q77 q78 q79 q80 q81 q82 q83 q84 W1 hB1
    have K1 := hid hB1
    clear hB1
    dsimp only
    go_upto_region 6 with (fail)
    refine reg6 _ w.heap.size (w.heap.size + 1) g5 g6 g7 g8 vv p r s u lm la lb tv tm ta tb gv gm A0 A1 c0 c1 wb W1 bf bl bt HC.out K1.out hl0 hl1 HF.out.1 HF.out.2 h1 h2 h3 h4 HH.out.2.2 HH.out.1 HH.out.2.1 ?_
    intro r85 r86 r87 r88 r89 r90 r91 r92 r93 r94 r95 r96 r97 r98 r99 r100 r101 r102 r103 r104 r105 r106 r107 r108 r109 r110 r111 r112 r113 r114 r115 r116 r117 r118 r119 r120 r121 r122 r123 r124 r125 r126 r127 r128 r129 r130 r131 r132 r133 r134 r135 r136 r137 W2 hB2
    have K2 := hid hB2
    clear hB2
    dsimp only
    go_upto_region 9 with (fail)
    refine reg9 _ w.heap.size (w.heap.size + 1) g5 g6 g7 g8 vv p r s u lm la lb tv tm ta tb gv gm A0 A1 c0 c1 wb _ bf bl bt W2.heap.size HC.out (below_alloc K2.out _) hl0 hl1 HF.out.1 HF.out.2 h1 h2 la0 la1 lb0 lb1 (own_nine W2 wb K2.out.size) ?_
    intro n140 n141 n142 n143 n144 n145 n146 n147 n148 n149 n150 n151 n152 n153 n154 n155 n156 n157 n158 n159 n160 n161 n162 n163 n164 n165 n166 n167 n168 n169 n170 n171 n172 n173 W3 hB3
    have K3 := hid hB3
    clear hB3
    dsimp only
    go_upto_region 11 with (fail)
    refine reg11 _ w.heap.size (w.heap.size + 1) g5 g6 g7 g8 vv p r s u lm la lb tv tm ta tb gv gm A0 A1 c0 c1 wb W3 bt HC.out K3.out ta0 ta1 tb0 tb1 HQ.out ?_
    intro m175 m176 m177 m178 m179 m180 m181 m182 m183 m184 m185 m186 m187 m188 m189 m190 m191 m192 m193 m194 m195 m196 m197 m198 m199 m200 m201 m202 m203 m204 W4 hB4
    have K4 := hid hB4
    clear hB4
    dsimp only
    go_wp2
    go_ret
    exact ⟨rfl, HB1.out.trans (K4.out.mono HB1.out.size)⟩
end Go.Proofs.YtiohiiekaofkbaaDoor
