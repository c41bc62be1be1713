/- The statement SpanFits: its walk. -/
import Derived.Test.YtlpocahflolmpaaDoorF1
import Derived.Test.YtlpocahflolmpaaDoorN0
import Derived.Deep.RegionHeld3
import Derived.Deep.AppendLies
import Derived.BigQuiet
import Derived.Deep.QuietTactic
namespace Go.Proofs.YtlpocahflolmpaaDoor
set_option linter.unusedVariables false
set_option linter.unusedSimpArgs false
open Go.RowKit

/-- ranges as cells -/
def rv (l : List (Int × Int)) : List Value := l.flatMap fun x => [.int .u64 x.1, .int .u64 x.2]
theorem rv_len (l : List (Int × Int)) : (rv l).length = l.length * 2 := by
  induction l with
  | nil => rfl
  | cons a l ih => simp [rv] at ih ⊢; omega
theorem rv_snoc (l : List (Int × Int)) (x : Int × Int) : rv (l ++ [x]) = rv l ++ [.int .u64 x.1, .int .u64 x.2] := by simp [rv]
theorem rv_get (l : List (Int × Int)) : ∀ (i : Nat) (h : i < l.length), (rv l)[i * 2]? = some (.int .u64 l[i].1) ∧ (rv l)[i * 2 + 1]? = some (.int .u64 l[i].2) := by
  induction l with
  | nil => intro i h; simp at h
  | cons a l ih =>
    intro i h
    cases i with
    | zero => simp [rv]
    | succ i =>
      have := ih i (by simpa using h)
      have e : rv (a :: l) = .int .u64 a.1 :: .int .u64 a.2 :: rv l := rfl
      rw [e, show (i + 1) * 2 = i * 2 + 1 + 1 by omega]
      simpa using this
theorem info27 : (Tryd.prog.info? 27).map (fun i => (i.zero, i.size, i.bytes)) = some (some (.agg #[.int .u64 0, .int .u64 0]), 2, 16) := by kernel_rfl

theorem Came.below {w w' : World} {A : Option Addr} {l : List (Int × Int)} (h : Came w A l) (hb : Below w.heap.size w w') : Came w' A l := by
  obtain ⟨h1, h2⟩ := h
  refine ⟨h1, fun hne => ?_⟩
  obtain ⟨g, o, e, hg, hc⟩ := h2 hne
  exact ⟨g, o, e, Nat.lt_of_lt_of_le hg hb.size, fun i hi => ⟨(hb.cell (p := ⟨g, o + i * 2, none⟩) hg).trans (hc i hi).1, (hb.cell (p := ⟨g, o + i * 2 + 1, none⟩) hg).trans (hc i hi).2⟩⟩

theorem own2_keep {w w' : World} {base : Nat} {v : Value} {n : Nat} {xs : List Value} (h : w.ownsRow base 27 2 v n xs) (hb : Below w.heap.size w w') : w'.ownsRow base 27 2 v n xs := by
  rcases h.2 with h0 | ⟨g, cap, cur, e1, e2, e3, e4⟩
  · exact ⟨h.1, .inl h0⟩
  · have hlt : g < w.heap.size := (World.ownsRow.lt h g (by rw [e1]; rfl)).2
    exact ⟨h.1, .inr ⟨g, cap, cur, e1, e2, (hb.block g hlt).trans e3, e4⟩⟩
theorem cells_keep {w wz : World} {p q : Addr} {u v : Value} (h1 : w.cell? p = some u) (h2 : w.cell? q = some v) (hp : p.block < w.heap.size) (hq : q.block < w.heap.size) (hb : Below w.heap.size w wz) :
    wz.cell? p = some u ∧ wz.cell? q = some v ∧ Below w.heap.size w wz := ⟨(hb.cell hp).trans h1, (hb.cell hq).trans h2, hb⟩

theorem dNn {B : Nat} {a w : World} {n : Nat} (h : Below B a w) : Below B a (w.drewN n) := ⟨h.os, h.tape, h.output, h.size, h.block⟩

/-- no more than is looked at -/
def Okay (x : Int × Int) : Prop := x.1 ≤ x.2 → x.2 - x.1 ≤ 5000 ∧ x.2 < 18446744073709551615

theorem two_cells (a b : Int) : ∀ u ∈ [Value.int .u64 a, Value.int .u64 b], u.oneCell' = true := by intro u hu; simp at hu; rcases hu with rfl | rfl <;> rfl
/-- behind the append of one range -/
theorem rng_step {w wr W wz : World} {v v' : Value} {i : Nat} {l : List (Int × Int)} {a b : Int} (h : i < l.length) (hx : l[i] = (a, b)) (hK : Below w.heap.size w wr) (zr : w.heap.size ≤ wr.heap.size) (hb : Below wr.heap.size wr W)
    (ho : wr.ownsRow w.heap.size 27 2 v i (rv (l.take i))) (hz : wz.ownsRow w.heap.size 27 2 v' (i + 1) (rv (l.take i) ++ [.int .u64 a, .int .u64 b])) (hg : W.grownBy wz v.ownBlock) :
    Hid (wz.ownsRow w.heap.size 27 2 v' (i + 1) (rv (l.take (i + 1)))) ∧ Hid (Below w.heap.size w wz) ∧ w.heap.size ≤ wz.heap.size := by
  have hs : w.heap.size ≤ W.heap.size := Nat.le_trans zr hb.size
  refine ⟨?_, (hK.trans (hb.mono zr)).grown hg hs (fun k hk => (World.ownsRow.lt ho k hk).1), Nat.le_trans hs hg.size⟩
  rw [List.take_succ_eq_append_getElem h, hx, rv_snoc]
  exact hz
theorem okay_step {l : List (Int × Int)} {i : Nat} {a b : Int} (h : i < l.length) (hx : l[i] = (a, b)) (ho : ∀ j (h : j < l.length), j < i → Okay l[j]) (hk : Okay (a, b)) : ∀ j (h : j < l.length), j < i + 1 → Okay l[j] := by
  intro j hj hji
  by_cases e : j = i
  · subst e; rw [hx]; exact hk
  · exact ho j hj (by omega)

set_option maxRecDepth 100000 in
set_option maxHeartbeats 8000000 in
theorem fits_r_yes (A : Option Addr) (c : Nat) (l : List (Int × Int)) (low d0 d1 d2 : Int) (w : World) (hC : Hid (Came w A l)) (hG : Glob w) (hl : l.length ≤ 20) (hlo : 0 ≤ low) (hlo1 : low ≤ 18446744073709551615)
    (a0 : 0 ≤ d0) (a1 : d0 ≤ 255) (b0 : 0 ≤ d1) (b1 : d1 ≤ 255) (c0 : 0 ≤ d2) (c1 : d2 ≤ 255) (hlow : low < 2 ^ (d0 % 64).toNat) :
    Calls Tryd.prog 4 #[.slice A l.length c, .int .u64 low, .agg #[.int .u8 d0, .int .u8 d1, .int .u8 d2]] w (fun e w' => e = .returned (.bool true) ∧ Below w.heap.size w w') := by
  have HG := hid hG
  have HLW := hid hlow
  have q0 : (low / 2 ^ (d0 % 64).toNat != 0) = false := by rw [Int.ediv_eq_zero_of_lt hlo hlow]; rfl
  obtain ⟨i27, hi27, hz0, hz1, hz2⟩ := info_parts info27
  clear hG hlow
  go_enter Tryd.func4, Tryd.ntmps4
  go_wp2
  go_quiet (fail)
  go_wp2
  have KW0 := hid (show Below w.heap.size w ((w.alloc (Obj.cells #[Value.int IntKind.u8 d0, Value.int IntKind.u8 d1, Value.int IntKind.u8 d2] 37)).drewN nq) from ⟨rfl, rfl, rfl, by simp, fun k hk => Below.heap_alloc _ _ _ hk⟩)
  go_loopw [10, 11, 12] (fun v10 v11 v12 wr => ∃ (i : Nat) (s : Int), v10 = .int .u64 s ∧ v12 = .int .i64 i ∧ i ≤ l.length ∧ 0 ≤ s ∧ s ≤ 5000 * i ∧ Hid (∀ j (h : j < l.length), j < i → Okay l[j]) ∧ Hid (wr.ownsRow w.heap.size 27 2 v11 i (rv (l.take i))) ∧ w.heap.size ≤ wr.heap.size ∧ Hid (Below w.heap.size w wr)) (fun _ _ v12 _ => l.length - (intOf v12).toNat)
  case atStart => exact ⟨0, 0, rfl, by go_num, by omega, by omega, by omega, hid (fun j h h2 => by omega), hid (by simpa [rv] using World.ownsRow_nil _ _ _ _), by simp, KW0⟩
  case round =>
    obtain ⟨i, s, rfl, rfl, hi, s0, s1, HO, HOWN, zr, KR⟩ := hrel
    by_cases hlt : i < l.length
    · obtain ⟨hbnd, hcel⟩ := hC.out
      obtain ⟨g, o, rfl, hg, hcl⟩ := hcel (by intro e; rw [e] at hlt; simp at hlt)
      obtain ⟨p1, p2, p3, p4⟩ := hbnd i hlt
      obtain ⟨e1w, e2w⟩ := hcl i hlt
      obtain ⟨x, hx⟩ : ∃ x, l[i] = x := ⟨_, rfl⟩
      have HX := hid hx
      rw [hx] at p1 p2 p3 p4 e1w e2w
      clear hx hbnd hcel hcl
      obtain ⟨a, b⟩ := x
      simp only at p1 p2 p3 p4 e1w e2w
      have kr := KR.out
      obtain ⟨e1, e2, _⟩ := cells_keep (p := ⟨g, o + i * 2, none⟩) (q := ⟨g, o + i * 2 + 1, none⟩) e1w e2w hg hg kr
      have E1 := hid e1w
      have E2 := hid e2w
      clear e1w e2w
      have i0 : (0 : Int) ≤ (i : Int) := by omega
      have i1 : (i : Int) < (l.length : Int) := by omega
      go_wp2
      by_cases hab : a ≤ b
      · have w1 : IntKind.u64.wrap (b - a) = b - a := by rw [wu]; omega
        by_cases h5 : 5000 < b - a
        · go_quiet (fail)
          go_wp2
          go_quiet (fail)
          go_wp2
          go_ret
          exact ⟨rfl, KR.out.trans ⟨rfl, rfl, rfl, by simp, fun _ _ => rfl⟩⟩
        · have g5 : decide (5000 < b - a) = false := by simpa using h5
          rcases hm : (b == 18446744073709551615) with _ | _
          · have HM := hid hm
            have w2 : IntKind.u64.wrap (s + (b - a)) = s + (b - a) := by rw [wu]; omega
            go_quiet (fail)
            go_wp2
            go_quiet (fail)
            go_wp2
            go_quiet (fail)
            go_wp2
            go_region_held3 (fun wz => wz.cell? ⟨g, o + i * 2, none⟩ = some (.int .u64 a) ∧ wz.cell? ⟨g, o + i * 2 + 1, none⟩ = some (.int .u64 b) ∧ Below w.heap.size w wz)
              (exact cells_keep (p := ⟨g, o + i * 2, none⟩) (q := ⟨g, o + i * 2 + 1, none⟩) E1.out E2.out hg hg (by repeat (first | assumption | refine Below.alloc ?_ (by first | exact zr | (simp; omega)) _ | refine Below.drew ?_ | refine dNn ?_)))
              (first
                | ((refine step_append_lies _ (by rfl) (.tmp 84) (.tmp 96) 38 (by rfl) w.heap.size 27 i27 (.agg #[.int .u64 0, .int .u64 0]) 2 16 Tryd.underlying38 hi27 hz0 hz1 hz2 rfl (by decide) _ i _ (by rfl) (own2_keep HOWN.out (by repeat (first | exact Below.refl _ _ | assumption | refine Below.alloc ?_ (by simp) _ | refine Below.drew ?_ | refine dNn ?_))) ⟨_, 0, none⟩ 1 1 [.int .u64 a, .int .u64 b] (by rfl) rfl (two_new _ _ _ _) (two_cells _ _) (by decide) (by unfold maxLen; omega) (by omega) (by simp; omega) _ rfl ?_; intro gz capz wz hownz hgrowz hatz hltz; obtain ⟨OZ, KZ, zz⟩ := rng_step hlt HX.out KR.out zr (by repeat (first | exact Below.refl _ _ | assumption | refine Below.alloc ?_ (by simp) _ | refine Below.drew ?_ | refine dNn ?_)) HOWN.out hownz hgrowz; have kz := KZ.out; clear hownz hatz)))
            go_wp2
            go_roundw
            case rel => exact ⟨i + 1, s + (b - a), rfl, by go_num, by omega, by omega, by omega, hid (okay_step hlt HX.out HO.out (fun _ => ⟨h5, by have := HM.out; simp at this; omega⟩)), OZ, zz, KZ⟩
            case measure => simp [intOf]; omega
          · go_quiet (fail)
            go_wp2
            go_quiet (fail)
            go_wp2
            go_ret
            exact ⟨rfl, KR.out.trans ⟨rfl, rfl, rfl, by simp, fun _ _ => rfl⟩⟩
      · go_quiet (fail)
        go_wp2
        go_region_held3 (fun wz => wz.cell? ⟨g, o + i * 2, none⟩ = some (.int .u64 a) ∧ wz.cell? ⟨g, o + i * 2 + 1, none⟩ = some (.int .u64 b) ∧ Below w.heap.size w wz)
          (exact cells_keep (p := ⟨g, o + i * 2, none⟩) (q := ⟨g, o + i * 2 + 1, none⟩) E1.out E2.out hg hg (by repeat (first | assumption | refine Below.alloc ?_ (by first | exact zr | (simp; omega)) _ | refine Below.drew ?_ | refine dNn ?_)))
          (first
            | ((refine step_append_lies _ (by rfl) (.tmp 84) (.tmp 96) 38 (by rfl) w.heap.size 27 i27 (.agg #[.int .u64 0, .int .u64 0]) 2 16 Tryd.underlying38 hi27 hz0 hz1 hz2 rfl (by decide) _ i _ (by rfl) (own2_keep HOWN.out (by repeat (first | exact Below.refl _ _ | assumption | refine Below.alloc ?_ (by simp) _ | refine Below.drew ?_ | refine dNn ?_))) ⟨_, 0, none⟩ 1 1 [.int .u64 a, .int .u64 b] (by rfl) rfl (two_new _ _ _ _) (two_cells _ _) (by decide) (by unfold maxLen; omega) (by omega) (by simp; omega) _ rfl ?_; intro gz capz wz hownz hgrowz hatz hltz; obtain ⟨OZ, KZ, zz⟩ := rng_step hlt HX.out KR.out zr (by repeat (first | exact Below.refl _ _ | assumption | refine Below.alloc ?_ (by simp) _ | refine Below.drew ?_ | refine dNn ?_)) HOWN.out hownz hgrowz; have kz := KZ.out; clear hownz hatz)))
        go_wp2
        go_roundw
        case rel => exact ⟨i + 1, s, rfl, by go_num, by omega, by omega, by omega, hid (okay_step hlt HX.out HO.out (fun h => absurd h (by show ¬ a ≤ b; omega))), OZ, zz, KZ⟩
        case measure => simp [intOf]; omega
    · have hil : i = l.length := by omega
      have hlw := HLW.out
      have HOV := hid (show ∀ x ∈ l, x.1 ≤ x.2 → x.2 < 18446744073709551615 from fun x hx h => by
        obtain ⟨j, hj, rfl⟩ := List.mem_iff_getElem.1 hx
        exact (HO.out j hj (by omega) h).2)
      have HPOS := hid (show ∀ x ∈ l, 0 ≤ x.1 from fun x hx => by
        obtain ⟨j, hj, rfl⟩ := List.mem_iff_getElem.1 hx
        exact (hC.out.1 j hj).1)
      have hown := HOWN.out
      rw [hil, List.take_length] at hown
      obtain ⟨F, hF⟩ : ∃ F, fitsI low (d0 % 64) (d1 % 10) (d2 % 64) l = F := ⟨_, rfl⟩
      have HLAW := hid (fits_law low (d0 % 64) (d1 % 10) (d2 % 64) l hlo hlw (by omega) (by omega) (by omega) (by omega) (by omega) (by omega) HPOS.out)
      rw [hF] at HLAW
      obtain ⟨t1, t2⟩ := pow_bd (n := d0 % 64) (by omega) (by omega)
      obtain ⟨u1, u2⟩ := pow_bd (n := d2 % 64) (by omega) (by omega)
      have T1 := hid t1
      have T2 := hid t2
      have U1 := hid u1
      have U2 := hid u2
      have HREF := hid (fun (W : World) (hb : Below w.heap.size w W) => refFits_any A c l low (d0 % 64) (d1 % 10) (d2 % 64) (2 ^ (d0 % 64).toNat) (2 ^ (d2 % 64).toNat) (128 ^ (d1 % 10).toNat) W (by omega) (hid (hC.out.below hb)) HOV hlo HLW.out (by omega) (by omega) (by omega) (by omega) (by omega) (by omega) rfl T1.out T2.out rfl U1.out U2.out (hid rfl))
      obtain ⟨A11, n11, c11, hv, HF⟩ : ∃ A11 n11 c11, u11 = .slice A11 n11 c11 ∧ Hid (Calls Tryd.prog 15 #[.slice A11 n11 c11, .int .u64 low, .int .i64 (d0 % 64), .int .i64 (d1 % 10), .int .i64 (d2 % 64)] wr (fun e w' => e = .returned (.bool F) ∧ Below wr.heap.size wr w')) := by
        rcases hown.2 with ⟨e1, e2⟩ | ⟨gg, cap, cur, e1, e2, e3, e4⟩
        · have hnil : l = [] := List.eq_nil_of_length_eq_zero e2
          refine ⟨none, 0, 0, e1, hid ?_⟩
          have := fits_nil 0 none low (d0 % 64) (d1 % 10) (d2 % 64) wr hlo hlw (by omega) (by omega) (by omega) (by omega) (by omega) (by omega)
          rwa [show F = false by rw [← hF, hnil]; rfl]
        · refine ⟨some ⟨gg, 0, none⟩, l.length, cap, e1, hid ?_⟩
          have hgg := (World.ownsRow.lt hown gg (by rw [e1]; rfl)).2
          have hR : RangesAt wr gg l := fun j hj => by
            obtain ⟨z1, z2⟩ := rv_get l j hj
            have y1 := hown.cells (g := gg) (by rw [e1]; rfl) _ _ z1
            have y2 := hown.cells (g := gg) (by rw [e1]; rfl) _ _ z2
            rw [Addr.add_lit, Nat.zero_add] at y1 y2
            exact ⟨y1, y2, hC.out.1 j hj⟩
          have := fits_any gg cap l low (d0 % 64) (d1 % 10) (d2 % 64) wr (by omega) hgg (hid hR) hlo hlw (by omega) (by omega) (by omega) (by omega) (by omega) (by omega)
          rwa [hF] at this
      subst hv
      clear hown hlw hF t1 t2 u1 u2 hil
      by_cases h5 : 5000 < s
      · go_wp2
        go_ret
        exact ⟨rfl, KR.out⟩
      · go_wp2_with (first
          | (go_at_call 15; ((with_reducible refine HF.out.mono ?_); rintro e w' ⟨rfl, hb1⟩; have k1 := KR.out.trans (hb1.mono zr); have z1 := Nat.le_trans zr hb1.size; have K1 := hid k1; clear k1 hb1))
          | (go_at_call 16; ((with_reducible refine (HREF.out _ K1.out).mono ?_); rintro e w' ⟨b, rfl, hbi, hb2⟩; have k2 := K1.out.trans (hb2.mono z1); have z2 := Nat.le_trans z1 hb2.size; have K2 := hid k2; (obtain rfl : b = F := by rw [Bool.eq_iff_iff, hbi, HLAW.out]); clear k2 hb2 hbi))
          | (go_at_call 14; ((with_reducible refine (awake_glob _ (HG.out.of K2.out)).mono ?_); rintro e w' ⟨rfl, hb3⟩; have k3 := K2.out.trans (hb3.mono z2))))
        go_ret
        exact ⟨rfl, k3⟩

end Go.Proofs.YtlpocahflolmpaaDoor
