/- Some texts of this seat in one. -/
import Derived.Test.YtiohiiekaofkbaaDoorC3
import Derived.Test.YtiohiiekaofkbaaDoorG0
import Derived.Test.YtiohiiekaofkbaaDoorZD
import Derived.Laws.AppendOwnNone
import Derived.Deep.AppendLies
import Derived.Test.YtiohiiekaofkbaaDoorZA
/- What is put is read as it was: numbers. Plain. -/
namespace Go.Proofs.YtiohiiekaofkbaaDoor
set_option linter.unusedVariables false
set_option linter.unusedSimpArgs false
open Go.RowKit

theorem ceil_le {x T q : Int} (hT : 1 ≤ T) (h : x ≤ T * q) : (x + T - 1) / T ≤ q := by
  have : (x + T - 1) / T < q + 1 := by
    apply Int.ediv_lt_of_lt_mul (by omega)
    rw [Int.add_mul, Int.one_mul, Int.mul_comm q T]
    omega
  omega
theorem fit_in {T M low lo hi V q : Int} (hT : 1 ≤ T) (h0 : lo ≤ V) (h1 : V ≤ hi) (hq : 0 ≤ q) (hV : V = low + T * q) (hM : V ≤ M) : fitOne T M low (lo, hi) = true := by
  have hp : 0 ≤ T * q := Int.mul_nonneg (by omega) hq
  have hf : fitV T low lo ≤ V := by
    unfold fitV
    split
    · have := ceil_le (x := lo - low) (q := q) hT (by omega)
      have h2 : (lo - low + T - 1) / T * T ≤ q * T := Int.mul_le_mul_of_nonneg_right this (by omega)
      rw [Int.mul_comm q T] at h2
      omega
    · omega
  unfold fitOne
  exact decide_eq_true ⟨by show lo ≤ hi; omega, by omega, by show fitV T low lo ≤ hi; omega, by show fitV T low lo ≤ M; omega⟩
theorem fits_mem {T M low lo hi : Int} {l : List (Int × Int)} (hl : (lo, hi) ∈ l) (h : fitOne T M low (lo, hi) = true) : fitsB T M low l = true := List.any_eq_true.2 ⟨_, hl, h⟩
theorem pow7 (j : Nat) (hj : j ≤ 9) : (2 : Int) ^ (7 * (j : Int)).toNat = 128 ^ j := by
  have : j = 0 ∨ j = 1 ∨ j = 2 ∨ j = 3 ∨ j = 4 ∨ j = 5 ∨ j = 6 ∨ j = 7 ∨ j = 8 ∨ j = 9 := by omega
  rcases this with rfl | rfl | rfl | rfl | rfl | rfl | rfl | rfl | rfl | rfl <;> decide
theorem pow128 (i : Nat) : 1 ≤ (128 : Int) ^ i := by
  have : (0 : Int) < 128 ^ i := Int.pow_pos (by decide)
  omega
theorem fits_more {V lo hi v q : Int} {s j : Nat} {rg : List (Int × Int)} (hs : s ≤ 4) (hj : j ≤ 4) (hl : (lo, hi) ∈ rg) (h0 : lo ≤ V) (h1 : V ≤ hi) (hV : V ≤ 4294967295) (hq : 0 ≤ q) (hq2 : q < 128 ^ j) (hVq : V = v + 128 ^ s * q) : fitsI v (7 * (s : Int)) (j : Int) 32 rg = true := by
  unfold fitsI
  rw [pow7 s (by omega), pow7 j (by omega)]
  have hT := pow128 s
  refine fits_mem hl (fit_in hT h0 h1 hq hVq ?_)
  unfold mostS
  split
  · have : q * 128 ^ s ≤ (128 ^ j - 1) * 128 ^ s := Int.mul_le_mul_of_nonneg_right (by omega) (by omega)
    rw [hVq, Int.mul_comm (128 ^ s) q]
    omega
  · show V ≤ (2 : Int) ^ (32 : Int).toNat - 1
    have : (2 : Int) ^ (32 : Int).toNat = 4294967296 := by decide
    omega
theorem fits_last {V lo hi : Int} {rg : List (Int × Int)} (hl : (lo, hi) ∈ rg) (h0 : lo ≤ V) (h1 : V ≤ hi) (hV : V ≤ 4294967295) : fitsI V 32 0 32 rg = true := by
  unfold fitsI
  refine fits_mem hl (fit_in (q := 0) (by decide) h0 h1 (by omega) (by omega) ?_)
  show V ≤ mostS _ _ _ V 32 0 32
  unfold mostS
  rw [if_neg (by decide)]
  have : (2 : Int) ^ (32 : Int).toNat = 4294967296 := by decide
  omega
theorem open_of {rg : Int → List (Int × Int)} {p lim v shift : Int} {j n : Nat} (h0 : 0 ≤ wiR p lim (j + 1 : Nat)) (h : fitsI v shift (j + 1 : Nat) 32 (rg (wiR p lim (j + 1 : Nat))) = true) (hn : j + 1 ≤ n) : openN rg p lim v shift n = true :=
  openN_mono (i := j + 1) (by rw [openN, h, decide_eq_true h0]; simp) hn

/-- the bytes at p are these -/
def HasAt (l : List Int) (p : Int) (L : List Int) : Prop := ∀ (j : Nat) (x : Int), L[j]? = some x → l[(p + j).toNat]? = some x
theorem HasAt.tail {l : List Int} {p x : Int} {L : List Int} (h : HasAt l p (x :: L)) (hp : 0 ≤ p) : HasAt l (p + 1) L := fun j y hj => by
  have := h (j + 1) y (by simpa using hj)
  rwa [show (p + ((j + 1 : Nat) : Int)).toNat = (p + 1 + (j : Int)).toNat by omega] at this
theorem HasAt.head {l : List Int} {p x : Int} {L : List Int} (h : HasAt l p (x :: L)) : l[p.toNat]? = some x := by
  have := h 0 x rfl
  rwa [show (p + ((0 : Nat) : Int)).toNat = p.toNat by omega] at this
theorem next_at {l : List Int} {p lim x : Int} {L : List Int} (h : HasAt l p (x :: L)) (hl : p < lim) : nextR l p lim = .ok x := by
  unfold nextR
  rw [if_neg (by unfold rest; split <;> omega), h.head]

/-- a number is read as it was put -/
theorem uM_read {rg : Int → List (Int × Int)} {l : List Int} {lim V lo hi pe : Int} (hr : (lo, hi) ∈ rg (rest pe lim)) (h0 : lo ≤ V) (h1 : V ≤ hi) (hV : V ≤ 4294967295) (hlim : pe ≤ lim) (y : Int) (y0 : 0 ≤ y) (y1 : y < 128) :
    ∀ (D : List Int) (i : Nat) (v p : Int), i + D.length ≤ 4 → (∀ z ∈ D, 128 ≤ z ∧ z < 256) → 0 ≤ v → v < 128 ^ i → V = v + 128 ^ i * val (D ++ [y]) → 0 ≤ p → pe = p + D.length + 1 → HasAt l p (D ++ [y]) →
      uM rg l lim (5 - i) v p = .ok (V, pe) := by
  intro D
  induction D with
  | nil =>
    intro i v p hi _ v0 v1 hVv p0 hpe hat
    obtain ⟨k, hk⟩ : ∃ k, k + i = 4 := ⟨4 - i, by simp at hi; omega⟩
    have e5 : 5 - i = k + 1 := by omega
    have e4 : 4 - k = i := by omega
    simp only [List.length_nil, Int.natCast_zero, Int.add_zero] at hpe
    have hat2 : HasAt l p (y :: []) := hat
    rw [e5]
    simp only [uM, next_at hat2 (show p < lim by omega), e4]
    have hv : v + y % 128 * 128 ^ i = V := by
      rw [hVv]; simp only [List.nil_append, val]; rw [show y % 128 = y by omega, Int.mul_zero, Int.add_zero, Int.mul_comm]
    have hc : k ≠ 0 ∨ y ≤ 15 := by
      by_cases h : k = 0
      · right
        obtain rfl : i = 4 := by omega
        rw [show (128 : Int) ^ 4 = 268435456 by decide] at hv v1
        omega
      · left; exact h
    have hf : fitsI V 32 0 32 (rg (rest (p + 1) lim)) = true := by rw [← hpe]; exact fits_last hr h0 h1 hV
    rw [if_neg (by omega), hv, if_pos (And.intro hc hf), hpe]
  | cons z D ih =>
    intro i v p hi hD v0 v1 hVv p0 hpe hat
    simp only [List.length_cons] at hi hpe
    obtain ⟨k, hk⟩ : ∃ k, k + i = 4 := ⟨4 - i, by omega⟩
    have e5 : 5 - i = k + 1 := by omega
    have e4 : 4 - k = i := by omega
    obtain ⟨z0, z1⟩ := hD z (by simp)
    have hat2 : HasAt l p (z :: (D ++ [y])) := hat
    have hP := pow128 i
    have hw := val_lt (D ++ [y])
    have hVz : V = (v + z % 128 * 128 ^ i) + 128 ^ (i + 1) * val (D ++ [y]) := by
      rw [hVv]; simp only [List.cons_append, val, Int.pow_succ, Int.mul_add]
      rw [Int.mul_comm (128 ^ i) (z % 128), Int.mul_assoc]; omega
    have hv1 : v + z % 128 * 128 ^ i < 128 ^ (i + 1) := by
      have : z % 128 * 128 ^ i ≤ 127 * 128 ^ i := Int.mul_le_mul_of_nonneg_right (by omega) (by omega)
      rw [Int.pow_succ]; omega
    have hv0 : 0 ≤ v + z % 128 * 128 ^ i := by
      have : 0 ≤ z % 128 * 128 ^ i := Int.mul_nonneg (by omega) (by omega)
      omega
    rw [e5]
    simp only [uM, next_at hat2 (show p < lim by omega), e4]
    have hsh : 7 * (5 - (k : Int)) = 7 * ((i + 1 : Nat) : Int) := by omega
    have hwi : wiR (p + 1) lim ((D.length + 1 : Nat) : Int) = rest pe lim := by
      unfold wiR rest; split <;> omega
    have hop : openN rg (p + 1) lim (v + z % 128 * 128 ^ i) (7 * (5 - (k : Int))) k = true := by
      rw [hsh]
      refine open_of (j := D.length) (by rw [hwi]; unfold rest; split <;> omega) ?_ (by omega)
      rw [hwi]
      refine fits_more (q := val (D ++ [y])) (by omega) (by omega) hr h0 h1 hV hw.1 ?_ hVz
      have := hw.2
      rwa [List.length_append] at this
    rw [if_pos z0, if_pos ⟨by omega, hop⟩, show k = 5 - (i + 1) by omega]
    exact ih (i + 1) _ (p + 1) (by omega) (fun q hq => hD q (by simp [hq])) hv0 hv1 hVz (by omega) (by omega) (hat2.tail p0)
end Go.Proofs.YtiohiiekaofkbaaDoor

/- wtype's ReadVals, where nothing is wrong. -/
namespace Go.Proofs.YtiohiiekaofkbaaDoor
set_option linter.unusedVariables false
set_option linter.unusedSimpArgs false
open Go.RowKit

/-- wtype.one as it was laid -/
structure GlobO (w : World) : Prop where
  c0 : w.cell? ⟨4, 0, none⟩ = some (.int .i64 1)
  c1 : w.cell? ⟨4, 1, none⟩ = some (.int .i64 1)
theorem GlobO.rd {g : Nat} {w W : World} (h : GlobO w) (hne : 4 ≠ g) (hg : Rd g w W) : GlobO W := ⟨hg.cell hne h.c0, hg.cell hne h.c1⟩
/-- an own row of types -/
def OwnV (w : World) (base : Nat) (v : Value) (l : List Int) : Prop := w.ownsRow base 60 1 v l.length (bv l)
theorem infoV : (Tryd.prog.info? 60).map (fun i => (i.zero, i.size, i.bytes)) = some (some (.int .u8 0), 1, 1) := by kernel_rfl
theorem OwnV.lt {w : World} {base : Nat} {v : Value} {l : List Int} (h : OwnV w base v l) : ∀ k, v.ownBlock = some k → base ≤ k ∧ k < w.heap.size := World.ownsRow.lt h
theorem OwnV.nil (w : World) (base : Nat) : OwnV w base (.slice none 0 0) [] := World.ownsRow_nil _ _ _ _
theorem OwnV.rd {w W : World} {base g : Nat} {v : Value} {l : List Int} (h : OwnV w base v l) (hg : g < base) (hr : Rd g w W) : OwnV W base v l :=
  World.ownsRow.kept h hr (by
    rcases hb : v.ownBlock with _ | k
    · exact .inl rfl
    · right; intro e; injection e with e; have := (h.lt k hb).1; omega)
/-- behind an append of one type -/
theorem OwnV.step {wr w1 : World} {base : Nat} {o : Obj} {v v1 : Value} {l : List Int} {x : Int} (hs : base ≤ wr.heap.size) (ho : OwnV wr base v l)
    {n : Nat} (h1 : w1.ownsRow base 60 1 v1 n (bv l ++ [.int .u8 x])) (hn : n = l.length + 1) (hg : (wr.alloc o).grownBy w1 v.ownBlock) : OwnV w1 base v1 (l ++ [x]) ∧ Below base wr w1 ∧ base ≤ w1.heap.size := by
  refine ⟨?_, ?_, ?_⟩
  · subst hn; unfold OwnV; rw [bv_app]; simpa [bv] using h1
  · exact ((Below.refl base wr).alloc hs o).grown hg (by simp; omega) (fun k hk => (ho.lt _ hk).1)
  · have := hg.size; simp at this; omega
/-- what changes only blocks from 'base' on keeps the cursor and its bytes -/
theorem CB.base {g : Nat} {A : Option Addr} {c : Nat} {l : List Int} {p lim p' : Int} {w0 w w1 : World} (h0 : CB g A c l p' lim w0) (h : CB g A c l p lim w) (hr : Rd g w0 w) (hb : Below w0.heap.size w w1) : CB g A c l p lim w1 := by
  have hg := h0.cu.lt
  have e : w1.heap[g]? = w.heap[g]? := hb.block g hg
  have hc : ∀ i, w1.cell? ⟨g, i, none⟩ = w.cell? ⟨g, i, none⟩ := fun i => World.cell?_of_block (a := ⟨g, i, none⟩) e
  have hf : ∀ i, w1.frozen? ⟨g, i, none⟩ = w.frozen? ⟨g, i, none⟩ := fun i => World.frozen?_of_block (a := ⟨g, i, none⟩) e
  have hr1 : Rd g w0 w1 := ⟨hb.os.trans hr.os, hb.tape.trans hr.tape, hb.output.trans hr.output, Nat.le_trans hr.size hb.size, fun k hk hne => (hb.block k hk).trans (hr.block k hk hne)⟩
  exact h0.rd hr1 ⟨(hc 0).trans h.cu.c0, (hc 1).trans h.cu.c1, (hc 2).trans h.cu.c2, (hf 1).trans h.cu.f1, (hf 2).trans h.cu.f2⟩ h.p0 h.p1 h.l2
theorem Rd.base {g : Nat} {w0 w w1 : World} (hr : Rd g w0 w) (hb : Below w0.heap.size w w1) : Rd g w0 w1 := ⟨hb.os.trans hr.os, hb.tape.trans hr.tape, hb.output.trans hr.output, Nat.le_trans hr.size hb.size, fun k hk hne => (hb.block k hk).trans (hr.block k hk hne)⟩

set_option maxRecDepth 100000 in
set_option maxHeartbeats 4000000 in
theorem readVals_ok (g : Nat) (A : Option Addr) (c : Nat) (l : List Int) (p lim : Int) (w : World) (a b : Int) (vs : List Int) (p1 : Int) (h : CB g A c l p lim w) (hG : Glob w) (hO : GlobO w) (hgl : 5 ≠ g) (hgo : 4 ≠ g) (a0 : 0 ≤ a) (a1 : a ≤ 1099511627776) (b0 : 0 ≤ b) (b1 : b ≤ 9223372036854775807) (hn : vs.length ≤ 1000)
    (hm : uM (rgL 1 1 a b) l lim 5 0 p = .ok ((vs.length : Int), p1))
    (hv : ∀ (i : Nat) (hi : i < vs.length), byteM (fun x _ => valB x) l (p1 + i) lim = .ok (.int .u8 vs[i], p1 + i + 1)) :
    Calls Tryd.prog 97 #[.pointer (some ⟨g, 0, none⟩), .agg #[.int .i64 a, .int .i64 b]] w (fun e w' => ∃ v, e = .returned v ∧ OwnV w' w.heap.size v vs ∧ CB g A c l (p1 + vs.length) lim w' ∧ Rd g w w') := by
  have HU := hid (fun W (hC : CB g A c l p lim W) (hW : Rd g w W) B C (hne : B ≠ g) (hne2 : C ≠ g) (h0 : W.cell? ⟨B, 0, none⟩ = some (.int .i64 1)) (h1 : W.cell? ⟨B, 1, none⟩ = some (.int .i64 1)) (k0 : W.cell? ⟨C, 0, none⟩ = some (.int .i64 a)) (k1 : W.cell? ⟨C, 1, none⟩ = some (.int .i64 b)) => uint_walk g A c l p lim W 164 #[.pointer (some ⟨B, 0, none⟩), .pointer (some ⟨C, 0, none⟩)] _ hC (list_wants hgl hne hne2 (by omega) (by omega) (by omega) (by omega) a0 a1 b0 b1 (hG.rd hgl hW) h0 h1 k0 k1))
  rw [hm] at HU
  have HV := hid (fun (i : Nat) (hi : i < vs.length) W (hC : CB g A c l (p1 + i) lim W) => show Calls Tryd.prog 98 #[.pointer (some ⟨g, 0, none⟩)] W (Post g A c l lim W (.ok (.int .u8 vs[i], p1 + i + 1))) from by rw [← hv i hi]; exact readVal_walk g A c l (p1 + i) lim W hC)
  obtain ⟨i0, hi0, hz0, hz1, hz2⟩ := info_parts infoV
  obtain ⟨o0, o1⟩ := hO
  have HC := hid h
  have hlt := h.cu.lt
  have hgo1 := cell_lt o0
  clear h hG hm hv
  have hmf : ∀ (fn : Fn) (first cap : Array Value) (w : World), (Instr.makeFunc fn first cap).run Tryd.prog w = .ok (.func fn first cap) w := fun _ _ _ _ => rfl
  have hzz : (w.alloc (.cells #[.int .i64 a, .int .i64 b] 85)).heap.size = w.heap.size + 1 := by simp
  have HZ := hid hzz
  clear hzz
  go_enter Tryd.func97, Tryd.ntmps97
  go_wp2_with (first | (go_at_call 143; (with_reducible refine (list_walk _ _ _ _ _).mono ?_); rintro e w1 ⟨rfl, hb1, hs1, i0', i1, i2, i3⟩; rw [HZ.out] at hs1 i0' i1 i2 i3) | (go_at_call 107; go_loud ((with_reducible refine (HU.out _ (HC.out.below (by repeat (first | exact Below.refl _ _ | assumption | refine Below.alloc ?_ (by first | exact Nat.le_refl _ | (simp; done) | (simp; omega) | omega) _ | refine Below.drew ?_ | refine Below.setCell ?_ (by first | exact Nat.le_refl _ | (simp; done) | (simp; omega) | omega) _ | refine below_call ?_ (by assumption) (by first | exact Nat.le_refl _ | (simp; done) | (simp; omega) | omega)))) (Rd.of_below (by repeat (first | exact Below.refl _ _ | assumption | refine Below.alloc ?_ (by first | exact Nat.le_refl _ | (simp; done) | (simp; omega) | omega) _ | refine Below.drew ?_ | refine Below.setCell ?_ (by first | exact Nat.le_refl _ | (simp; done) | (simp; omega) | omega) _ | refine below_call ?_ (by assumption) (by first | exact Nat.le_refl _ | (simp; done) | (simp; omega) | omega)))) _ _ (by omega) (by omega) i0' i1 i2 i3).mono ?_); rintro e w2 ⟨rfl, HC2, HG2⟩; have HC2 := hid HC2)))
  have HR2 := hid (((Rd.of_below (by repeat (first | exact Below.refl _ _ | assumption | refine Below.alloc ?_ (by first | exact Nat.le_refl _ | (simp; done) | (simp; omega) | omega) _ | refine Below.drew ?_ | refine Below.setCell ?_ (by first | exact Nat.le_refl _ | (simp; done) | (simp; omega) | omega) _ | refine below_call ?_ (by assumption) (by first | exact Nat.le_refl _ | (simp; done) | (simp; omega) | omega)))).trans HG2 : Rd g w w2))
  clear HU hb1 hs1 i0' i1 i2 i3 HG2
  go_loopw [5, 11] (fun v5 v11 wr => ∃ i : Nat, v11 = .int .u32 i ∧ i ≤ vs.length ∧ Hid (OwnV wr w.heap.size v5 (vs.take i)) ∧ Hid (CB g A c l (p1 + i) lim wr) ∧ w.heap.size ≤ wr.heap.size ∧ Hid (Rd g w wr)) (fun _ v11 _ => vs.length - (intOf v11).toNat)
  case atStart => exact ⟨0, by go_num, by omega, hid (OwnV.nil _ _), hid (by simpa using HC2.out), HR2.out.size, HR2⟩
  case round =>
    obtain ⟨i, rfl, hi1, HO, HCi, hsz, HR⟩ := hrel
    by_cases hlt2 : i < vs.length
    · have HVi := hid (HV.out i hlt2)
      obtain ⟨x, hx⟩ : ∃ x, x = vs[i] := ⟨_, rfl⟩
      rw [← hx] at HVi
      have HX := hid (show vs.take i ++ [x] = vs.take (i + 1) by rw [hx]; exact List.take_append_getElem hlt2)
      have HLT := hid (show (vs.take i).length = i by rw [List.length_take]; omega)
      clear hx
      go_wp2_with (first | (go_at_call 98; (with_reducible refine (HVi.out _ HCi.out).mono ?_); rintro e w3 ⟨rfl, HC3, HG3⟩; have HC3 := hid HC3; have HO3 := hid (HO.out.rd hlt HG3); have hz3 := HG3.size) | (at_builtin; refine wpList_append_own _ rfl _ _ 54 rfl w.heap.size 60 i0 (.int .u8 0) 1 1 Tryd.underlying54 hi0 hz0 hz1 hz2 rfl (by decide) _ _ _ rfl (HO3.out.alloc _) ⟨w3.heap.size, 0, none⟩ 1 1 [.int .u8 x] rfl rfl ?_ ?_ ?_ ?_ ?_ ?_))
      (all_goals try (first | (exact one_new _ _ _) | (intro u hu; simp at hu; subst hu; rfl) | rfl | (unfold maxLen; first | omega | (simp; omega)) | omega | (simp; omega)))
      intro v1 w4 hown1 hgrow _
      obtain ⟨k1, k2, k3⟩ := OwnV.step (Nat.le_trans hsz hz3) HO3.out hown1 (by rw [HLT.out]) hgrow
      rw [HX.out] at k1
      have K1 := hid k1
      have HR3 := hid (HR.out.trans HG3)
      have K3 := hid (CB.base HC.out HC3.out HR3.out k2)
      have K4 := hid (HR3.out.base k2)
      clear k1 k2 hown1 hgrow HO HCi HR HG3 HO3
      go_wp2
      go_roundw
      case rel => exact ⟨i + 1, by go_num, by omega, K1, hid (by have := K3.out; rwa [show p1 + ((i + 1 : Nat) : Int) = p1 + (i : Int) + 1 by omega]), k3, K4⟩
      case measure => simp [intOf]; omega
    · go_wp2
      go_ret
      have hi : i = vs.length := by omega
      subst hi
      exact ⟨_, rfl, by have := HO.out; rwa [List.take_length] at this, HCi.out, HR.out⟩
end Go.Proofs.YtiohiiekaofkbaaDoor

/- wtype's ReadFunc, where nothing is wrong. -/
namespace Go.Proofs.YtiohiiekaofkbaaDoor
set_option linter.unusedVariables false
set_option linter.unusedSimpArgs false
open Go.RowKit

/-- wtype.some as it was laid -/
structure GlobS (w : World) : Prop where
  c0 : w.cell? ⟨0, 0, none⟩ = some (.int .i64 1)
  c1 : w.cell? ⟨0, 1, none⟩ = some (.int .i64 1099511627776)
theorem GlobS.rd {g : Nat} {w W : World} (h : GlobS w) (hne : 0 ≠ g) (hg : Rd g w W) : GlobS W := ⟨hg.cell hne h.c0, hg.cell hne h.c1⟩
theorem OwnV.mono {w : World} {b b' : Nat} {v : Value} {l : List Int} (h : OwnV w b v l) (hb : b' ≤ b) : OwnV w b' v l :=
  ⟨h.1, h.2.imp id (fun ⟨g, cap, cur, e, h1, h2⟩ => ⟨g, cap, cur, e, Nat.le_trans hb h1, h2⟩)⟩
theorem OwnV.slice {w : World} {b : Nat} {v : Value} {l : List Int} (h : OwnV w b v l) : ∃ A c, v = .slice A l.length c := by
  rcases h.2 with ⟨e, hn⟩ | ⟨g, cap, cur, e, _⟩
  · exact ⟨none, 0, by rw [e, hn]⟩
  · exact ⟨_, _, e⟩
theorem OwnV.set {w : World} {b B i : Nat} {v : Value} {l : List Int} (h : OwnV w b v l) (hB : B < b) (u : Value) : OwnV (w.setCell ⟨B, i, none⟩ u) b v l :=
  World.ownsRow.kept h (grown_setCell w B i u) (by
    rcases hb : v.ownBlock with _ | k
    · exact .inl rfl
    · right; intro e; injection e with e; have := (h.lt k hb).1; omega)
theorem blkB {w w1 : World} {g : Nat} {o : Obj} (h : w.heap[g]? = some o) (hb : Below w.heap.size w w1) : w1.heap[g]? = some o := by
  have : g < w.heap.size := by
    rcases Nat.lt_or_ge g w.heap.size with h2 | h2
    · exact h2
    · rw [Array.getElem?_eq_none h2] at h; cases h
  exact (hb.block g this).trans h
theorem blkN (w : World) (o : Obj) : (w.alloc o).heap[w.heap.size]? = some o := heap_alloc_new w o
theorem two_at {W : World} {B : Nat} {a b : Value} {t : TypeId} (h : W.heap[B]? = some (.cells #[a, b] t (0, 0))) : W.cell? ⟨B, 0, none⟩ = some a ∧ W.cell? ⟨B, 1, none⟩ = some b ∧ W.frozen? ⟨B, 0, none⟩ = false ∧ W.frozen? ⟨B, 1, none⟩ = false := by
  simp [World.cell?, World.frozen?, h]
theorem keepF {w1 W : World} {p1 p2 p3 p4 : Nat × Nat} {a b c d : Value} (h : w1.cell? ⟨p1.1, p1.2, none⟩ = some a ∧ w1.cell? ⟨p2.1, p2.2, none⟩ = some b ∧ w1.cell? ⟨p3.1, p3.2, none⟩ = some c ∧ w1.cell? ⟨p4.1, p4.2, none⟩ = some d) (hb : Below w1.heap.size w1 W) :
    W.cell? ⟨p1.1, p1.2, none⟩ = some a ∧ W.cell? ⟨p2.1, p2.2, none⟩ = some b ∧ W.cell? ⟨p3.1, p3.2, none⟩ = some c ∧ W.cell? ⟨p4.1, p4.2, none⟩ = some d ∧ Below w1.heap.size w1 W :=
  ⟨still hb h.1, still hb h.2.1, still hb h.2.2.1, still hb h.2.2.2, hb⟩
theorem two_set {W : World} {B : Nat} {a b x y : Value} {t : TypeId} (h : W.heap[B]? = some (.cells #[a, b] t (0, 0))) : ((W.setCell ⟨B, 0, none⟩ x).setCell ⟨B, 1, none⟩ y).cell? ⟨B, 0, none⟩ = some x ∧ ((W.setCell ⟨B, 0, none⟩ x).setCell ⟨B, 1, none⟩ y).cell? ⟨B, 1, none⟩ = some y := by
  obtain ⟨z0, z1, _, _⟩ := two_at h
  exact ⟨by go_simp, by go_simp⟩

theorem newIs {w1 W : World} {R1 R2 R3 R4 : Prop} (h : R1 ∧ R2 ∧ R3 ∧ R4 ∧ Below w1.heap.size w1 W) : ∃ Wn B, W.alloc (.cells #[.int .i64 0, .int .i64 0] 85) = Wn ∧ W.heap.size = B ∧ Wn.heap[B]? = some (.cells #[.int .i64 0, .int .i64 0] 85 (0, 0)) ∧ Below w1.heap.size w1 Wn ∧ w1.heap.size ≤ B :=
  ⟨_, _, rfl, rfl, blkN W _, h.2.2.2.2.alloc h.2.2.2.2.size _, h.2.2.2.2.size⟩
theorem lay4 {g : Nat} {w w1 W : World} {a b : Value} (hgs : 0 ≠ g) (hlt : g < w.heap.size) (hW : Rd g w1 W) (h : w1.cell? ⟨0, 0, none⟩ = some (.int .i64 1) ∧ w1.cell? ⟨0, 1, none⟩ = some (.int .i64 1099511627776) ∧ w1.cell? ⟨w.heap.size, 0, none⟩ = some a ∧ w1.cell? ⟨w.heap.size, 1, none⟩ = some b) :
    W.cell? ⟨0, 0, none⟩ = some (.int .i64 1) ∧ W.cell? ⟨0, 1, none⟩ = some (.int .i64 1099511627776) ∧ W.cell? ⟨w.heap.size, 0, none⟩ = some a ∧ W.cell? ⟨w.heap.size, 1, none⟩ = some b :=
  ⟨hW.cell hgs h.1, hW.cell hgs h.2.1, hW.cell (by omega) h.2.2.1, hW.cell (by omega) h.2.2.2⟩
set_option maxRecDepth 100000 in
set_option maxHeartbeats 4000000 in
theorem readFunc_ok (g : Nat) (A : Option Addr) (c : Nat) (l : List Int) (p lim : Int) (w : World) (a b : Int) (x : Int) (ps rs : List Int) (p1 p2 : Int) (h : CB g A c l p lim w) (hG : Glob w) (hO : GlobO w) (hS : GlobS w) (hgl : 5 ≠ g) (hgo : 4 ≠ g) (hgs : 0 ≠ g) (a0 : 0 ≤ a) (a1 : a ≤ 1099511627) (b0 : 0 ≤ b) (b1 : b ≤ 9223372036854775807) (hn : ps.length ≤ 1000) (hn2 : rs.length ≤ 1000)
    (hx : byteM (formB (2 + a) 1099511627776) l p lim = .ok (.int .u8 x, p + 1))
    (hm : uM (rgL 1 1 (1 + a) 1099511627776) l lim 5 0 (p + 1) = .ok ((ps.length : Int), p1))
    (hv : ∀ (i : Nat) (hi : i < ps.length), byteM (fun x _ => valB x) l (p1 + i) lim = .ok (.int .u8 ps[i], p1 + i + 1))
    (hm2 : uM (rgL 1 1 a b) l lim 5 0 (p1 + ps.length) = .ok ((rs.length : Int), p2))
    (hv2 : ∀ (i : Nat) (hi : i < rs.length), byteM (fun x _ => valB x) l (p2 + i) lim = .ok (.int .u8 rs[i], p2 + i + 1)) :
    Calls Tryd.prog 47 #[.pointer (some ⟨g, 0, none⟩), .agg #[.int .i64 a, .int .i64 b]] w (fun e w' => ∃ v0 v1, e = .returned (.agg #[v0, v1]) ∧ OwnV w' w.heap.size v0 ps ∧ OwnV w' w.heap.size v1 rs ∧ CB g A c l (p2 + rs.length) lim w' ∧ Rd g w w') := by
  have HX := hid (fun W (hC : CB g A c l p lim W) B (hne : B ≠ g) (h0 : W.cell? ⟨B, 0, none⟩ = some (.int .i64 (2 + a))) (h1 : W.cell? ⟨B, 1, none⟩ = some (.int .i64 1099511627776)) => byte_walk g A c l p lim W 95 #[.pointer (some ⟨B, 0, none⟩)] (formB (2 + a) 1099511627776) (enters Tryd.func95 (by kernel_rfl) rfl) hC (fun x r W' x0 x1 hW' => readFunc1_any x r _ _ B W' (hW'.cell hne h0) (hW'.cell hne h1)))
  rw [hx] at HX
  have HV1 := hid (fun W (hC : CB g A c l (p + 1) lim W) (hW : Rd g w W) => readVals_ok g A c l (p + 1) lim W (1 + a) 1099511627776 ps p1 hC (hG.rd hgl hW) (hO.rd hgo hW) hgl hgo (by omega) (by omega) (by omega) (by omega) hn hm hv)
  have HV2 := hid (fun W (hC : CB g A c l (p1 + ps.length) lim W) (hW : Rd g w W) => readVals_ok g A c l (p1 + ps.length) lim W a b rs p2 hC (hG.rd hgl hW) (hO.rd hgo hW) hgl hgo (by omega) (by omega) (by omega) (by omega) hn2 hm2 hv2)
  have HS := hid hS
  have HC := hid h
  have hlt := h.cu.lt
  have hg0 := cell_lt hS.c0
  have hm22 : andMax 1099511627776 1099511627776 = 1099511627776 := rfl
  have hmb : andMax 1099511627776 b = 1099511627776 := by unfold andMax; rw [if_pos (.inl (by omega))]
  have HA1 := hid (fun W => and_any 1 1099511627776 1 1099511627776 W (by omega) (by omega) (by omega) (by omega) (by omega) (by omega))
  rw [hm22] at HA1
  have HA2 := hid (fun W => and_any 2 1099511627776 a b W (by omega) (by omega) (by omega) (by omega) (by omega) (by omega))
  have HA3 := hid (fun W => and_any 1 1099511627776 a b W (by omega) (by omega) (by omega) (by omega) (by omega) (by omega))
  rw [hmb] at HA2 HA3
  clear h hG hO hS hx hm hv hm2 hv2 hm22 hmb
  have hmf : ∀ (fn : Fn) (first cap : Array Value) (w : World), (Instr.makeFunc fn first cap).run Tryd.prog w = .ok (.func fn first cap) w := fun _ _ _ _ => rfl
  go_enter Tryd.func47, Tryd.ntmps47
  go_upto_region 1 with (fail)
  obtain ⟨w1, hw1⟩ : ∃ w1, w1 = (w.alloc (.cells #[.int .i64 a, .int .i64 b] 85)).alloc (.cells #[.slice none 0 0, .slice none 0 0] 56) := ⟨_, rfl⟩
  have K1 := hid (show w1.heap[w.heap.size]? = some (.cells #[.int .i64 a, .int .i64 b] 85 (0, 0)) by rw [hw1]; exact blkB (blkN w _) (Below.alloc (Below.refl _ _) (Nat.le_refl _) _))
  have K2 := hid (show w1.heap[w.heap.size + 1]? = some (.cells #[.slice none 0 0, .slice none 0 0] 56 (0, 0)) by
    rw [hw1]
    have := blkN (w.alloc (.cells #[.int .i64 a, .int .i64 b] 85)) (.cells #[.slice none 0 0, .slice none 0 0] 56)
    rwa [show (w.alloc (.cells #[.int .i64 a, .int .i64 b] 85)).heap.size = w.heap.size + 1 by simp] at this)
  have HB1 := hid (show Below w.heap.size w w1 by rw [hw1]; exact (by repeat (first | exact Below.refl _ _ | assumption | refine Below.alloc ?_ (by first | exact Nat.le_refl _ | (simp; done) | (simp; omega) | omega) _ | refine Below.drew ?_ | refine Below.setCell ?_ (by first | exact Nat.le_refl _ | (simp; done) | (simp; omega) | omega) _ | refine below_call ?_ (by assumption) (by first | exact Nat.le_refl _ | (simp; done) | (simp; omega) | omega))))
  have hz1 : w1.heap.size = w.heap.size + 2 := by rw [hw1]; simp
  have HZ1 := hid hz1
  have hz2 : w.heap.size + 1 < w1.heap.size := by omega
  rw [← hw1]
  clear hw1 hz1
  have HS1 := hid (HS.out.rd hgs (Rd.of_below HB1.out))
  have S0 := hid (And.intro HS1.out.c0 (And.intro HS1.out.c1 (And.intro (two_at K1.out).1 (two_at K1.out).2.1)))
  go_cut [5] (fun s5 wx => ∃ B, s5 = .pointer (some ⟨B, 0, none⟩) ∧ w1.heap.size ≤ B ∧ wx.cell? ⟨B, 0, none⟩ = some (.int .i64 (2 + a)) ∧ wx.cell? ⟨B, 1, none⟩ = some (.int .i64 1099511627776) ∧ Hid (Below w1.heap.size w1 wx))
  case first =>
    refine wp_region_noPanic ?_
    refine wp_region_held_drew (S := (fun W => W.cell? ⟨0, 0, none⟩ = some (.int .i64 1) ∧ W.cell? ⟨0, 1, none⟩ = some (.int .i64 1099511627776) ∧ W.cell? ⟨w.heap.size, 0, none⟩ = some (.int .i64 a) ∧ W.cell? ⟨w.heap.size, 1, none⟩ = some (.int .i64 b) ∧ Below w1.heap.size w1 W)) (by kernel_rfl) ?hSa1 (fun hHeld => ?goa1)
    case hSa1 => exact keepF (p1 := (0, 0)) (p2 := (0, 1)) (p3 := (w.heap.size, 0)) (p4 := (w.heap.size, 1)) S0.out (Below.drew (Below.refl _ _))
    refine wpAnyH_take (i := 0) (oi := { dst := some 7, op := Go.Op.load 85 (Go.Operand.global 0), type := 85, pos := "wtype.go:164", after := #[], guard := none }) (v := ?_) rfl (by kernel_rfl) (by kernel_rfl) (by kernel_rfl) (fun _ _ _ h => h) (Or.inl ⟨by rfl, ?hya2⟩) (by assumption) ?resta2
    case hya2 => (intro w hSw; (try dsimp only at hSw); go_simp; first | (with_reducible rfl) | (rw [if_neg (by omega)]) | skip)
    simp only [Act.put, List.setIfInBounds_toArray, List.set_cons_zero, List.set_cons_succ]
    refine wpAnyH_take (i := 1) (oi := { dst := some 8, op := Go.Op.load 85 (Go.Operand.global 0), type := 85, pos := "wtype.go:164", after := #[], guard := none }) (v := ?_) rfl (by kernel_rfl) (by kernel_rfl) (by kernel_rfl) (fun _ _ _ h => h) (Or.inl ⟨by rfl, ?hya3⟩) (by assumption) ?resta3
    case hya3 => (intro w hSw; (try dsimp only at hSw); go_simp; first | (with_reducible rfl) | (rw [if_neg (by omega)]) | skip)
    simp only [Act.put, List.setIfInBounds_toArray, List.set_cons_zero, List.set_cons_succ]
    refine wpAnyH_take (i := 3) (oi := { dst := some 10, op := Go.Op.load 85 (Go.Operand.tmp 3), type := 85, pos := "wtype.go:164", after := #[], guard := none }) (v := ?_) rfl (by kernel_rfl) (by kernel_rfl) (by kernel_rfl) (fun _ _ _ h => h) (Or.inl ⟨by rfl, ?hya4⟩) (by assumption) ?resta4
    case hya4 => (intro w hSw; (try dsimp only at hSw); go_simp; first | (with_reducible rfl) | (rw [if_neg (by omega)]) | skip)
    simp only [Act.put, List.setIfInBounds_toArray, List.set_cons_zero, List.set_cons_succ]
    refine wpAnyH_ready (rs := [2, 5]) (by kernel_rfl) (by simp) ?_
    refine AllReadyH.cons (o := { dst := some 9, op := Go.Op.call { callee := Go.Callee.value (Go.Operand.func 93), args := #[Go.Operand.tmp 7, Go.Operand.tmp 8], argTypes := #[85, 85] }, type := 85, pos := "wtype.go:164", after := #[{ on := 0, ground := Go.Ground.data }, { on := 1, ground := Go.Ground.data }], guard := none }) rfl (fun K hK => ?_) ?_
    · go_simp
      go_at_call 93; (with_reducible refine (HA1.out _).mono ?_); rintro e w2 ⟨rfl, hb1⟩; (try have hz := hid (blkB hz.out hb1))
      refine hK.out _ _ ?_ (fun hHeld => ?_)
      · (try dsimp only); exact keepF (p1 := (0, 0)) (p2 := (0, 1)) (p3 := (w.heap.size, 0)) (p4 := (w.heap.size, 1)) S0.out (hHeld.2.2.2.2.trans (hb1.mono hHeld.2.2.2.2.size))
      clear hK K
      try simp only [Act.put, List.setIfInBounds_toArray, List.set_cons_zero, List.set_cons_succ]
      refine wpAnyH_ready (rs := [4, 5]) (by kernel_rfl) (by simp) ?_
      refine AllReadyH.cons (o := { dst := some 11, op := Go.Op.call { callee := Go.Callee.value (Go.Operand.func 93), args := #[Go.Operand.tmp 9, Go.Operand.tmp 10], argTypes := #[85, 85] }, type := 85, pos := "wtype.go:164", after := #[{ on := 2, ground := Go.Ground.data }, { on := 3, ground := Go.Ground.data }, { on := 2, ground := Go.Ground.chain }], guard := none }) rfl (fun K hK => ?_) ?_
      · go_simp
        go_at_call 93; (with_reducible refine (HA2.out _).mono ?_); rintro e w3 ⟨rfl, hb1⟩; (try have hz := hid (blkB hz.out hb1))
        refine hK.out _ _ ?_ (fun hHeld => ?_)
        · (try dsimp only); exact keepF (p1 := (0, 0)) (p2 := (0, 1)) (p3 := (w.heap.size, 0)) (p4 := (w.heap.size, 1)) S0.out (hHeld.2.2.2.2.trans (hb1.mono hHeld.2.2.2.2.size))
        clear hK K
        try simp only [Act.put, List.setIfInBounds_toArray, List.set_cons_zero, List.set_cons_succ]
        refine wpAnyH_ready (rs := [5]) (by kernel_rfl) (by simp) ?_
        refine AllReadyH.cons (o := { dst := some 5, op := Go.Op.alloc 85, type := 0, pos := "wtype.go:164", after := #[], guard := none }) rfl (fun K hK => ?_) AllReadyH.nil
        go_simp
        obtain ⟨Wn, B, e1, e2, hz, hBn, hW⟩ := newIs hHeld; (try simp only [show ∀ W : World, W.drew.heap.size = W.heap.size from fun _ => rfl] at e2); have hz := hid hz; have hBn := hid hBn; (first | rw [e1, e2] | rw [show (w1.alloc (.cells #[.int .i64 0, .int .i64 0] 85)).drew = Wn from e1, e2]); clear e1 e2
        refine hK.out _ _ ?_ (fun hHeld => ?_)
        · (try dsimp only); exact keepF (p1 := (0, 0)) (p2 := (0, 1)) (p3 := (w.heap.size, 0)) (p4 := (w.heap.size, 1)) S0.out hBn.out
        clear hK K
        try simp only [Act.put, List.setIfInBounds_toArray, List.set_cons_zero, List.set_cons_succ]
        refine wpAnyH_ready (rs := [6]) (by kernel_rfl) (by simp) ?_
        refine AllReadyH.cons (o := { dst := none, op := Go.Op.store 85 (Go.Operand.tmp 5) (Go.Operand.tmp 11), type := 0, pos := "wtype.go:164", after := #[{ on := 5, ground := Go.Ground.data }, { on := 4, ground := Go.Ground.data }, { on := 4, ground := Go.Ground.chain }, { on := 0, ground := Go.Ground.phase }, { on := 1, ground := Go.Ground.phase }, { on := 2, ground := Go.Ground.phase }, { on := 3, ground := Go.Ground.phase }, { on := 4, ground := Go.Ground.phase }, { on := 5, ground := Go.Ground.phase }], guard := none }) rfl (fun K hK => ?_) AllReadyH.nil
        obtain ⟨z0, z1, f0, f1⟩ := two_at hz.out
        go_simp
        refine hK.out _ _ ?_ (fun hHeld => ?_)
        · (try dsimp only); exact keepF (p1 := (0, 0)) (p2 := (0, 1)) (p3 := (w.heap.size, 0)) (p4 := (w.heap.size, 1)) S0.out ((Below.setCell (p := ⟨B, 0, none⟩) hHeld.2.2.2.2 hW _).setCell (p := ⟨B, 1, none⟩) hW _)
        clear hK K
        try simp only [Act.put, List.setIfInBounds_toArray, List.set_cons_zero, List.set_cons_succ]
        refine wpAnyH_done (by kernel_rfl) ?_ _
        refine NoPanic.normal ?_
        go_wp2_with fail
        go_meet
        exact ⟨_, rfl, hW, (two_set hz.out).1, (two_set hz.out).2, hid hHeld.2.2.2.2⟩
      refine AllReadyH.cons (o := { dst := some 5, op := Go.Op.alloc 85, type := 0, pos := "wtype.go:164", after := #[], guard := none }) rfl (fun K hK => ?_) ?_
      · go_simp
        obtain ⟨Wn, B, e1, e2, hz, hBn, hW⟩ := newIs hHeld; (try simp only [show ∀ W : World, W.drew.heap.size = W.heap.size from fun _ => rfl] at e2); have hz := hid hz; have hBn := hid hBn; (first | rw [e1, e2] | rw [show (w1.alloc (.cells #[.int .i64 0, .int .i64 0] 85)).drew = Wn from e1, e2]); clear e1 e2
        refine hK.out _ _ ?_ (fun hHeld => ?_)
        · (try dsimp only); exact keepF (p1 := (0, 0)) (p2 := (0, 1)) (p3 := (w.heap.size, 0)) (p4 := (w.heap.size, 1)) S0.out hBn.out
        clear hK K
        try simp only [Act.put, List.setIfInBounds_toArray, List.set_cons_zero, List.set_cons_succ]
        refine wpAnyH_ready (rs := [4]) (by kernel_rfl) (by simp) ?_
        refine AllReadyH.cons (o := { dst := some 11, op := Go.Op.call { callee := Go.Callee.value (Go.Operand.func 93), args := #[Go.Operand.tmp 9, Go.Operand.tmp 10], argTypes := #[85, 85] }, type := 85, pos := "wtype.go:164", after := #[{ on := 2, ground := Go.Ground.data }, { on := 3, ground := Go.Ground.data }, { on := 2, ground := Go.Ground.chain }], guard := none }) rfl (fun K hK => ?_) AllReadyH.nil
        go_simp
        go_at_call 93; (with_reducible refine (HA2.out _).mono ?_); rintro e w3 ⟨rfl, hb1⟩; (try have hz := hid (blkB hz.out hb1))
        refine hK.out _ _ ?_ (fun hHeld => ?_)
        · (try dsimp only); exact keepF (p1 := (0, 0)) (p2 := (0, 1)) (p3 := (w.heap.size, 0)) (p4 := (w.heap.size, 1)) S0.out (hHeld.2.2.2.2.trans (hb1.mono hHeld.2.2.2.2.size))
        clear hK K
        try simp only [Act.put, List.setIfInBounds_toArray, List.set_cons_zero, List.set_cons_succ]
        refine wpAnyH_ready (rs := [6]) (by kernel_rfl) (by simp) ?_
        refine AllReadyH.cons (o := { dst := none, op := Go.Op.store 85 (Go.Operand.tmp 5) (Go.Operand.tmp 11), type := 0, pos := "wtype.go:164", after := #[{ on := 5, ground := Go.Ground.data }, { on := 4, ground := Go.Ground.data }, { on := 4, ground := Go.Ground.chain }, { on := 0, ground := Go.Ground.phase }, { on := 1, ground := Go.Ground.phase }, { on := 2, ground := Go.Ground.phase }, { on := 3, ground := Go.Ground.phase }, { on := 4, ground := Go.Ground.phase }, { on := 5, ground := Go.Ground.phase }], guard := none }) rfl (fun K hK => ?_) AllReadyH.nil
        obtain ⟨z0, z1, f0, f1⟩ := two_at hz.out
        go_simp
        refine hK.out _ _ ?_ (fun hHeld => ?_)
        · (try dsimp only); exact keepF (p1 := (0, 0)) (p2 := (0, 1)) (p3 := (w.heap.size, 0)) (p4 := (w.heap.size, 1)) S0.out ((Below.setCell (p := ⟨B, 0, none⟩) hHeld.2.2.2.2 hW _).setCell (p := ⟨B, 1, none⟩) hW _)
        clear hK K
        try simp only [Act.put, List.setIfInBounds_toArray, List.set_cons_zero, List.set_cons_succ]
        refine wpAnyH_done (by kernel_rfl) ?_ _
        refine NoPanic.normal ?_
        go_wp2_with fail
        go_meet
        exact ⟨_, rfl, hW, (two_set hz.out).1, (two_set hz.out).2, hid hHeld.2.2.2.2⟩
      exact AllReadyH.nil
    refine AllReadyH.cons (o := { dst := some 5, op := Go.Op.alloc 85, type := 0, pos := "wtype.go:164", after := #[], guard := none }) rfl (fun K hK => ?_) ?_
    · go_simp
      obtain ⟨Wn, B, e1, e2, hz, hBn, hW⟩ := newIs hHeld; (try simp only [show ∀ W : World, W.drew.heap.size = W.heap.size from fun _ => rfl] at e2); have hz := hid hz; have hBn := hid hBn; (first | rw [e1, e2] | rw [show (w1.alloc (.cells #[.int .i64 0, .int .i64 0] 85)).drew = Wn from e1, e2]); clear e1 e2
      refine hK.out _ _ ?_ (fun hHeld => ?_)
      · (try dsimp only); exact keepF (p1 := (0, 0)) (p2 := (0, 1)) (p3 := (w.heap.size, 0)) (p4 := (w.heap.size, 1)) S0.out hBn.out
      clear hK K
      try simp only [Act.put, List.setIfInBounds_toArray, List.set_cons_zero, List.set_cons_succ]
      refine wpAnyH_ready (rs := [2]) (by kernel_rfl) (by simp) ?_
      refine AllReadyH.cons (o := { dst := some 9, op := Go.Op.call { callee := Go.Callee.value (Go.Operand.func 93), args := #[Go.Operand.tmp 7, Go.Operand.tmp 8], argTypes := #[85, 85] }, type := 85, pos := "wtype.go:164", after := #[{ on := 0, ground := Go.Ground.data }, { on := 1, ground := Go.Ground.data }], guard := none }) rfl (fun K hK => ?_) AllReadyH.nil
      go_simp
      go_at_call 93; (with_reducible refine (HA1.out _).mono ?_); rintro e w2 ⟨rfl, hb1⟩; (try have hz := hid (blkB hz.out hb1))
      refine hK.out _ _ ?_ (fun hHeld => ?_)
      · (try dsimp only); exact keepF (p1 := (0, 0)) (p2 := (0, 1)) (p3 := (w.heap.size, 0)) (p4 := (w.heap.size, 1)) S0.out (hHeld.2.2.2.2.trans (hb1.mono hHeld.2.2.2.2.size))
      clear hK K
      try simp only [Act.put, List.setIfInBounds_toArray, List.set_cons_zero, List.set_cons_succ]
      refine wpAnyH_ready (rs := [4]) (by kernel_rfl) (by simp) ?_
      refine AllReadyH.cons (o := { dst := some 11, op := Go.Op.call { callee := Go.Callee.value (Go.Operand.func 93), args := #[Go.Operand.tmp 9, Go.Operand.tmp 10], argTypes := #[85, 85] }, type := 85, pos := "wtype.go:164", after := #[{ on := 2, ground := Go.Ground.data }, { on := 3, ground := Go.Ground.data }, { on := 2, ground := Go.Ground.chain }], guard := none }) rfl (fun K hK => ?_) AllReadyH.nil
      go_simp
      go_at_call 93; (with_reducible refine (HA2.out _).mono ?_); rintro e w3 ⟨rfl, hb1⟩; (try have hz := hid (blkB hz.out hb1))
      refine hK.out _ _ ?_ (fun hHeld => ?_)
      · (try dsimp only); exact keepF (p1 := (0, 0)) (p2 := (0, 1)) (p3 := (w.heap.size, 0)) (p4 := (w.heap.size, 1)) S0.out (hHeld.2.2.2.2.trans (hb1.mono hHeld.2.2.2.2.size))
      clear hK K
      try simp only [Act.put, List.setIfInBounds_toArray, List.set_cons_zero, List.set_cons_succ]
      refine wpAnyH_ready (rs := [6]) (by kernel_rfl) (by simp) ?_
      refine AllReadyH.cons (o := { dst := none, op := Go.Op.store 85 (Go.Operand.tmp 5) (Go.Operand.tmp 11), type := 0, pos := "wtype.go:164", after := #[{ on := 5, ground := Go.Ground.data }, { on := 4, ground := Go.Ground.data }, { on := 4, ground := Go.Ground.chain }, { on := 0, ground := Go.Ground.phase }, { on := 1, ground := Go.Ground.phase }, { on := 2, ground := Go.Ground.phase }, { on := 3, ground := Go.Ground.phase }, { on := 4, ground := Go.Ground.phase }, { on := 5, ground := Go.Ground.phase }], guard := none }) rfl (fun K hK => ?_) AllReadyH.nil
      obtain ⟨z0, z1, f0, f1⟩ := two_at hz.out
      go_simp
      refine hK.out _ _ ?_ (fun hHeld => ?_)
      · (try dsimp only); exact keepF (p1 := (0, 0)) (p2 := (0, 1)) (p3 := (w.heap.size, 0)) (p4 := (w.heap.size, 1)) S0.out ((Below.setCell (p := ⟨B, 0, none⟩) hHeld.2.2.2.2 hW _).setCell (p := ⟨B, 1, none⟩) hW _)
      clear hK K
      try simp only [Act.put, List.setIfInBounds_toArray, List.set_cons_zero, List.set_cons_succ]
      refine wpAnyH_done (by kernel_rfl) ?_ _
      refine NoPanic.normal ?_
      go_wp2_with fail
      go_meet
      exact ⟨_, rfl, hW, (two_set hz.out).1, (two_set hz.out).2, hid hHeld.2.2.2.2⟩
    exact AllReadyH.nil
  case rest =>
    obtain ⟨B, rfl, hBz, z0, z1, HBB⟩ := hcut
    have hBg : B ≠ g := by omega
    have HRc := hid (Rd.of_below (g := g) HBB.out)
    have HRw1 := hid (Rd.of_below (g := g) HB1.out)
    have HCc := hid ((HC.out.below HB1.out).below HBB.out)
    have LAY := hid (fun W (hW : Rd g w1 W) => lay4 hgs hlt hW S0.out)
    have LK := hid (fun W (hW : Rd g w1 W) => two_at ((hW.block (w.heap.size + 1) hz2 (fun e => by have := Option.some.inj e; omega)).trans K2.out))
    clear HB1 S0 HS1 K1 K2
    go_wp2_with (first | (go_at_call 94; (with_reducible refine (HX.out _ HCc.out B hBg z0 z1).mono ?_); rintro e w2 ⟨rfl, HC2, HG2⟩; have HC2 := hid HC2; have HR2 := hid (HRc.out.trans HG2); obtain ⟨s0, s1, q0, q1⟩ := LAY.out _ HR2.out) | (go_at_call 93; (with_reducible refine (HA3.out _).mono ?_); rintro e w3 ⟨rfl, hb3⟩; have HC3 := hid (HC2.out.below hb3); have HR3 := hid (HR2.out.trans (Rd.of_below hb3))) | (go_at_call 97; (with_reducible refine (HV1.out _ HC3.out (HRw1.out.trans HR3.out)).mono ?_); rintro e w4 ⟨v0, rfl, hv0, HC4, HG4⟩; obtain ⟨A0, c0, rfl⟩ := hv0.slice; have HC4 := hid HC4; have HR4 := hid (HR3.out.trans HG4); have HV0 := hid hv0; have hsz3 := HR3.out.size; clear hv0; obtain ⟨s0, s1, q0, q1⟩ := LAY.out _ HR4.out) | (go_at_call 97; (with_reducible refine (HV2.out _ HC4.out (HRw1.out.trans HR4.out)).mono ?_); rintro e w5 ⟨v1, rfl, hv1, HC5, HG5⟩; obtain ⟨A1, c1, rfl⟩ := hv1.slice; have HC5 := hid HC5; have HR5 := hid (HR4.out.trans HG5); have HV1b := hid hv1; have hsz4 := HR4.out.size; have HV0 := hid (HV0.out.rd (by omega) HG5); clear hv1; obtain ⟨k0, k1, f0, f1⟩ := LK.out _ HR5.out))
    have hR5 := HRw1.out.trans HR5.out
    have hRf := (hR5.set (i := 0) (B := w.heap.size + 1) (by omega) (.slice A0 ps.length c0)).set (i := 1) (B := w.heap.size + 1) (by omega) (.slice A1 rs.length c1)
    have hg5 : w.heap.size + 1 ≠ g := by omega
    refine bodyPost_ret (v := .agg #[.slice A0 ps.length c0, .slice A1 rs.length c1]) ?_ rfl ⟨_, _, rfl, ((HV0.out.set (by omega) _).set (by omega) _).mono (by omega), ((HV1b.out.set (by omega) _).set (by omega) _).mono (by omega), HC.out.rd hRf ((HC5.out.cu.set hg5 _).set hg5 _) HC5.out.p0 HC5.out.p1 HC5.out.l2, hRf⟩
    simp [results, Tryd.results47, go_sem, k0, k1]
end Go.Proofs.YtiohiiekaofkbaaDoor

/- wtype's ReadTable, where nothing is wrong. -/
namespace Go.Proofs.YtiohiiekaofkbaaDoor
set_option linter.unusedVariables false
set_option linter.unusedSimpArgs false
open Go.RowKit

/-- limits as they are read -/
structure LimR (l : List Int) (lim a b : Int) (p : Int) (hb : Bool) (mn mx p3 : Int) : Prop where
  flag : byteM (limB a b) l p lim = .ok (.int .u8 (if hb then 1 else 0), p + 1)
  min : ∃ p2, uM (rgI (tmMin 1 (if hb then 1 else 0) + a) (andMax (tmMax 5 (if hb then 1 else 0)) b)) l lim 5 0 (p + 1) = .ok (mn, p2) ∧ (if hb then uM (rgI a b) l lim 5 0 p2 = .ok (mx, p3) else mx = 0 ∧ p3 = p2)
theorem readLimits_ok (g : Nat) (A : Option Addr) (c : Nat) (l : List Int) (p lim : Int) (w : World) (a b : Int) (hb : Bool) (mn mx p3 : Int) (h : CB g A c l p lim w) (hG : GlobN w) (hgl : 3 ≠ g) (a0 : 0 ≤ a) (a1 : a ≤ 1099511627776) (b0 : 0 ≤ b) (hL : LimR l lim a b p hb mn mx p3) :
    Calls Tryd.prog 88 #[.pointer (some ⟨g, 0, none⟩), .agg #[.int .i64 a, .int .i64 b]] w (Post g A c l lim w (.ok (.agg #[.bool hb, .int .u32 mn, .int .u32 mx], p3))) := by
  obtain ⟨hf, p2, hm, hr⟩ := hL
  cases hb with
  | false =>
    obtain ⟨rfl, rfl⟩ := hr
    exact readLimits_ok0 g A c l p lim w a b 0 mn p3 h hG hgl a0 a1 b0 hf (by omega) (by omega) hm (hid rfl)
  | true => exact readLimits_ok1 g A c l p lim w a b 1 mn p2 mx p3 h hG hgl a0 a1 b0 hf (by omega) (by omega) hm (hid rfl) hr
theorem four_at {W : World} {B : Nat} {a b c d : Value} {t : TypeId} (h : W.heap[B]? = some (.cells #[a, b, c, d] t (0, 0))) : W.cell? ⟨B, 0, none⟩ = some a ∧ W.cell? ⟨B, 1, none⟩ = some b ∧ W.cell? ⟨B, 2, none⟩ = some c ∧ W.cell? ⟨B, 3, none⟩ = some d ∧ W.frozen? ⟨B, 0, none⟩ = false ∧ W.frozen? ⟨B, 1, none⟩ = false ∧ W.frozen? ⟨B, 2, none⟩ = false ∧ W.frozen? ⟨B, 3, none⟩ = false := by
  simp [World.cell?, World.frozen?, h]
set_option maxRecDepth 100000 in
set_option maxHeartbeats 4000000 in
theorem readTable_ok (g : Nat) (A : Option Addr) (c : Nat) (l : List Int) (p lim : Int) (w : World) (a b : Int) (x : Int) (hb : Bool) (mn mx p3 : Int) (h : CB g A c l p lim w) (hN : GlobN w) (hgl : 3 ≠ g) (a0 : 0 ≤ a) (a1 : a ≤ 1099511627) (b0 : 0 ≤ b)
    (hx : byteM (tabB (2 + a) (andMax 11 b)) l p lim = .ok (.int .u8 x, p + 1)) (hL : LimR l lim a b (p + 1) hb mn mx p3) :
    Calls Tryd.prog 49 #[.pointer (some ⟨g, 0, none⟩), .agg #[.int .i64 a, .int .i64 b]] w (Post g A c l lim w (.ok (.agg #[.int .u8 x, .bool hb, .int .u32 mn, .int .u32 mx], p3))) := by
  have HX := hid (fun W (hC : CB g A c l p lim W) B (hne : B ≠ g) (h0 : W.cell? ⟨B, 0, none⟩ = some (.int .i64 (2 + a))) (h1 : W.cell? ⟨B, 1, none⟩ = some (.int .i64 (andMax 11 b))) => byte_walk g A c l p lim W 100 #[.pointer (some ⟨B, 0, none⟩)] (tabB (2 + a) (andMax 11 b)) (enters Tryd.func100 (by kernel_rfl) rfl) hC (fun x r W' x0 x1 hW' => readTable1_any x r _ _ B W' (hW'.cell hne h0) (hW'.cell hne h1)))
  rw [hx] at HX
  have HL := hid (fun W (hC : CB g A c l (p + 1) lim W) (hW : Rd g w W) => readLimits_ok g A c l (p + 1) lim W a b hb mn mx p3 hC (hN.rd hgl hW) hgl a0 (by omega) b0 hL)
  have HC := hid h
  have hlt := h.cu.lt
  have HA := hid (fun W => and_any 2 11 a b W (by omega) (by omega) (by omega) (by omega) (by omega) (by omega))
  have K1 := hid (fun W (hW : Rd g ((w.alloc (.cells #[.int .i64 a, .int .i64 b] 85)).alloc (.cells #[.int .u8 0, .bool false, .int .u32 0, .int .u32 0] 62)) W) => two_at ((hW.block w.heap.size (by simp; omega) (fun e => by have := Option.some.inj e; omega)).trans (blkB (blkN w _) (Below.alloc (Below.refl _ _) (Nat.le_refl _) _))))
  have K2 := hid (fun W (hW : Rd g ((w.alloc (.cells #[.int .i64 a, .int .i64 b] 85)).alloc (.cells #[.int .u8 0, .bool false, .int .u32 0, .int .u32 0] 62)) W) => four_at ((hW.block (w.heap.size + 1) (by simp) (fun e => by have := Option.some.inj e; omega)).trans (by
    have := blkN (w.alloc (.cells #[.int .i64 a, .int .i64 b] 85)) (.cells #[.int .u8 0, .bool false, .int .u32 0, .int .u32 0] 62)
    rwa [show (w.alloc (.cells #[.int .i64 a, .int .i64 b] 85)).heap.size = w.heap.size + 1 by simp] at this)))
  clear h hN hx hL
  have hmf : ∀ (fn : Fn) (first cap : Array Value) (w : World), (Instr.makeFunc fn first cap).run Tryd.prog w = .ok (.func fn first cap) w := fun _ _ _ _ => rfl
  go_enter Tryd.func49, Tryd.ntmps49
  go_wp2_with (first | (go_at_call 93; (with_reducible refine (HA.out _).mono ?_); rintro e w2 ⟨rfl, hb2⟩; have HR2 := hid (Rd.of_below (g := g) hb2); have HB2 := hid (show Below w.heap.size w w2 from (by repeat (first | exact Below.refl _ _ | assumption | refine Below.alloc ?_ (by first | exact Nat.le_refl _ | (simp; done) | (simp; omega) | omega) _ | refine Below.drew ?_ | refine Below.setCell ?_ (by first | exact Nat.le_refl _ | (simp; done) | (simp; omega) | omega) _ | refine below_call ?_ (by assumption) (by first | exact Nat.le_refl _ | (simp; done) | (simp; omega) | omega)))); have hz2 := hb2.size; simp at hz2) | (go_at_call 94; go_loud ((with_reducible refine (HX.out _ (HC.out.below (HB2.out.alloc HB2.out.size _)) _ (by omega) (by go_simp) (by go_simp)).mono ?_); rintro e w3 ⟨rfl, HC3, HG3⟩; have HC3 := hid HC3; have HR3 := hid ((HR2.out.trans (Rd.of_below (Below.alloc (Below.refl _ _) (Nat.le_refl _) _))).trans HG3); obtain ⟨q0, q1, _, _⟩ := K1.out _ HR3.out)) | (go_at_call 88; go_loud ((with_reducible refine (HL.out _ HC3.out ((Rd.of_below (by repeat (first | exact Below.refl _ _ | assumption | refine Below.alloc ?_ (by first | exact Nat.le_refl _ | (simp; done) | (simp; omega) | omega) _ | refine Below.drew ?_ | refine Below.setCell ?_ (by first | exact Nat.le_refl _ | (simp; done) | (simp; omega) | omega) _ | refine below_call ?_ (by assumption) (by first | exact Nat.le_refl _ | (simp; done) | (simp; omega) | omega)))).trans HR3.out)).mono ?_); rintro e w4 ⟨rfl, HC4, HG4⟩; have HC4 := hid HC4; have HR4 := hid (HR3.out.trans HG4); obtain ⟨k0, k1, k2, k3, f0, f1, f2, f3⟩ := K2.out _ HR4.out)))
  have hR4 : Rd g w w4 := (Rd.of_below (by repeat (first | exact Below.refl _ _ | assumption | refine Below.alloc ?_ (by first | exact Nat.le_refl _ | (simp; done) | (simp; omega) | omega) _ | refine Below.drew ?_ | refine Below.setCell ?_ (by first | exact Nat.le_refl _ | (simp; done) | (simp; omega) | omega) _ | refine below_call ?_ (by assumption) (by first | exact Nat.le_refl _ | (simp; done) | (simp; omega) | omega)))).trans HR4.out
  have hg5 : w.heap.size + 1 ≠ g := by omega
  have hRf := (((hR4.set (i := 0) (B := w.heap.size + 1) (by omega) (.int .u8 x)).set (i := 1) (B := w.heap.size + 1) (by omega) (.bool hb)).set (i := 2) (B := w.heap.size + 1) (by omega) (.int .u32 mn)).set (i := 3) (B := w.heap.size + 1) (by omega) (.int .u32 mx)
  refine bodyPost_ret (v := .agg #[.int .u8 x, .bool hb, .int .u32 mn, .int .u32 mx]) ?_ rfl ⟨rfl, HC.out.rd hRf ((((HC4.out.cu.set hg5 _).set hg5 _).set hg5 _).set hg5 _) HC4.out.p0 HC4.out.p1 HC4.out.l2, hRf⟩
  simp [results, Tryd.results49, go_sem, k0, k1, k2, k3]
end Go.Proofs.YtiohiiekaofkbaaDoor

/- What is put is read as it was: types. Plain. -/
namespace Go.Proofs.YtiohiiekaofkbaaDoor
set_option linter.unusedVariables false
set_option linter.unusedSimpArgs false
open Go.RowKit

/-- the bytes of a number, perhaps more of them than it needs -/
structure Enc (N : List Int) (v : Int) : Prop where
  dig : ∃ D y, Digits N D y
  val : val N = v
  len : N.length ≤ 5
  v0 : 0 ≤ v
  v1 : v ≤ 4294967295
theorem Enc.pos {N : List Int} {v : Int} (h : Enc N v) : 1 ≤ N.length := by
  obtain ⟨D, y, e, _⟩ := h.dig
  rw [e]; simp
theorem hasAt_mid {X L Y l : List Int} {p : Int} (h : l = X ++ (L ++ Y)) (hp : p = X.length) : HasAt l p L := fun j x hj => by
  subst h hp
  have hlt : j < L.length := (List.getElem?_eq_some_iff.1 hj).1
  rw [show ((X.length : Int) + (j : Int)).toNat = X.length + j by omega, List.getElem?_append_right (by omega), show X.length + j - X.length = j by omega, List.getElem?_append_left hlt]
  exact hj
/-- a number's bytes at p are read -/
theorem enc_read {rg : Int → List (Int × Int)} {l : List Int} {p lim v lo hi : Int} {N : List Int} (h : Enc N v) (hat : HasAt l p N) (p0 : 0 ≤ p) (hl : p + N.length ≤ lim) (hr : (lo, hi) ∈ rg (rest (p + N.length) lim)) (h0 : lo ≤ v) (h1 : v ≤ hi) : uM rg l lim 5 0 p = .ok (v, p + N.length) := by
  obtain ⟨D, y, e, hD, y0, y1⟩ := h.dig
  have hlen := h.len
  have hval := h.val
  subst e
  rw [List.length_append] at hl hlen
  simp only [List.length_singleton] at hl hlen
  have he : p + (D.length : Int) + 1 = p + ((D ++ [y]).length : Int) := by simp; omega
  have := uM_read (rg := rg) (l := l) (lim := lim) (V := v) (lo := lo) (hi := hi) (pe := p + D.length + 1) (by rw [he]; exact hr) h0 h1 h.v1 (by omega) y y0 y1 D 0 0 p (by omega) hD (by omega) (by simp) (by rw [hval]; simp) p0 rfl hat
  rw [he] at this
  exact this
theorem byte_read {m : Int → Int → Bool} {l : List Int} {p lim x : Int} (h : HasAt l p [x]) (hl : p < lim) (hm : m x (rest (p + 1) lim) = true) : byteM m l p lim = .ok (.int .u8 x, p + 1) := by
  rw [byteM, next_at h hl]
  simp [hm]
theorem vals_read {l : List Int} {p lim : Int} {vs : List Int} (h : HasAt l p vs) (p0 : 0 ≤ p) (hl : p + vs.length ≤ lim) (hv : ∀ x ∈ vs, valB x = true) : ∀ (i : Nat) (hi : i < vs.length), byteM (fun x _ => valB x) l (p + i) lim = .ok (.int .u8 vs[i], p + i + 1) := fun i hi =>
  byte_read (fun j x hj => by
    have : j = 0 := by
      have := (List.getElem?_eq_some_iff.1 hj).1
      simp at this; omega
    subst this
    simp at hj
    subst hj
    have := h i vs[i] (List.getElem?_eq_getElem hi)
    rwa [show (p + (i : Int) + ((0 : Nat) : Int)).toNat = (p + (i : Int)).toNat by omega]) (by omega) (hv _ (List.getElem_mem hi))
theorem rest_in {p lim : Int} (h : 0 ≤ lim) : rest p lim = lim - p := by unfold rest; rw [if_neg (by omega)]
theorem ch_in {a b r : Int} (h0 : a ≤ r) (h1 : r < 1099511627776) (h2 : 1099511627776 ≤ b ∨ r ≤ b) : chB a b r = true := by
  unfold chB hasB
  rw [if_neg (by omega)]
  exact decide_eq_true ⟨h0, h2⟩
theorem index_in {a b r v : Int} (h0 : a ≤ r) (h1 : r < 1099511627776) (h2 : 1099511627776 ≤ b ∨ r ≤ b) : ((0 : Int), (4294967295 : Int)) ∈ rgI a b r := by
  unfold rgI; rw [ch_in h0 h1 h2]; simp
/-- counts of single bytes -/
theorem list_in {a b r n : Int} (h0 : a ≤ r) (h1 : r < 1099511627776) (hn : 0 ≤ n) (hn1 : n ≤ 4294967295) (hn2 : n ≤ r - a) (hn3 : 1099511627776 ≤ b ∨ r - b ≤ n) :
    ∃ lo hi, (lo, hi) ∈ rgL 1 1 a b r ∧ lo ≤ n ∧ n ≤ hi := by
  have hno : ¬ cnNone 1 a b r := by unfold cnNone; omega
  have hlow : cnLow 1 a b r ≤ n := by
    unfold cnLow
    by_cases hh : hasB a b r = true ∧ (r < 1099511627776 ∨ 1099511627776 ≤ b)
    · rw [if_pos hh]; exact hn
    · rw [if_neg hh, if_neg (by omega), Int.ediv_one]
      rcases hn3 with h | h
      · exact absurd ⟨by unfold hasB; exact decide_eq_true ⟨h0, .inl h⟩, .inl h1⟩ hh
      · omega
  have hhigh : cnHigh 1 a r = r - a := by unfold cnHigh; rw [Int.ediv_one]
  refine ⟨cnL 1 1 a b r, cnH 1 1 a b r, by simp [rgL], ?_, ?_⟩
  · unfold cnL
    rw [if_neg hno, hhigh]
    unfold wiL
    rw [if_neg (by omega)]
    omega
  · unfold cnH
    rw [if_neg hno, hhigh]
    unfold wiH
    rw [if_neg (by omega)]
    omega
end Go.Proofs.YtiohiiekaofkbaaDoor

/- What is put is read as it was: a function's type, a global's, a table's, one behind the other. Plain. -/
namespace Go.Proofs.YtiohiiekaofkbaaDoor
set_option linter.unusedVariables false
set_option linter.unusedSimpArgs false
open Go.RowKit

theorem HasAt.self (l : List Int) : HasAt l 0 l := fun j x hj => by rwa [show ((0 : Int) + (j : Int)).toNat = j by omega]
theorem HasAt.cut {l : List Int} {p : Int} {L1 L2 : List Int} (h : HasAt l p (L1 ++ L2)) (p0 : 0 ≤ p) : HasAt l p L1 ∧ HasAt l (p + L1.length) L2 :=
  ⟨fun j x hj => h j x (by rw [List.getElem?_append_left (List.getElem?_eq_some_iff.1 hj).1]; exact hj),
   fun j x hj => by
    have := h (L1.length + j) x (by rw [List.getElem?_append_right (by omega), show L1.length + j - L1.length = j by omega]; exact hj)
    rwa [show (p + (L1.length : Int) + (j : Int)).toNat = (p + ((L1.length + j : Nat) : Int)).toNat by omega]⟩
def fl (hb : Bool) : Int := if hb then 1 else 0
/-- the bytes of three types -/
def wholeB (N1 ps N2 rs : List Int) (gv gb tv : Int) (hb : Bool) (M1 M2 : List Int) : List Int := [96] ++ (N1 ++ (ps ++ (N2 ++ (rs ++ ([gv] ++ ([gb] ++ ([tv] ++ ([fl hb] ++ (M1 ++ (if hb then M2 else []))))))))))
/-- they are read -/
structure ReadsW (l : List Int) (lim : Int) (ps rs : List Int) (gv gb tv : Int) (hb : Bool) (mn mx p1 p2 : Int) : Prop where
  form : byteM (formB (2 + 5) 1099511627776) l 0 lim = .ok (.int .u8 96, 0 + 1)
  n1 : uM (rgL 1 1 (1 + 5) 1099511627776) l lim 5 0 (0 + 1) = .ok ((ps.length : Int), p1)
  v1 : ∀ (i : Nat) (hi : i < ps.length), byteM (fun x _ => valB x) l (p1 + i) lim = .ok (.int .u8 ps[i], p1 + i + 1)
  n2 : uM (rgL 1 1 5 14) l lim 5 0 (p1 + ps.length) = .ok ((rs.length : Int), p2)
  v2 : ∀ (i : Nat) (hi : i < rs.length), byteM (fun x _ => valB x) l (p2 + i) lim = .ok (.int .u8 rs[i], p2 + i + 1)
  gv : byteM (fun x _ => valB x) l (p2 + rs.length) lim = .ok (.int .u8 gv, p2 + rs.length + 1)
  gb : byteM (fun x _ => decide (x ≤ 1)) l (p2 + rs.length + 1) lim = .ok (.int .u8 gb, p2 + rs.length + 2)
  tv : byteM (tabB (2 + 0) (andMax 11 0)) l (p2 + rs.length + 2) lim = .ok (.int .u8 tv, p2 + rs.length + 2 + 1)
  lims : LimR l lim 0 0 (p2 + rs.length + 2 + 1) hb mn mx lim
theorem reads_whole {N1 ps N2 rs M1 M2 : List Int} {gv gb tv mn mx : Int} {hb : Bool} (e1 : Enc N1 ps.length) (e2 : Enc N2 rs.length) (hp : ∀ x ∈ ps, valB x = true) (hr : ∀ x ∈ rs, valB x = true) (hpl : ps.length ≤ 1000) (hrl : rs.length ≤ 1000)
    (hgv : valB gv = true) (hgb : gb ≤ 1) (htv : refB tv = true) (e3 : Enc M1 mn) (e4 : Enc M2 mx) :
    ∃ p1 p2, ReadsW (wholeB N1 ps N2 rs gv gb tv hb M1 M2) (wholeB N1 ps N2 rs gv gb tv hb M1 M2).length ps rs gv gb tv hb mn (if hb then mx else 0) p1 p2 := by
  have q1 := e1.pos
  have q2 := e2.pos
  have q3 := e3.pos
  have q4 := e4.pos
  have w1 := e1.len
  have w2 := e2.len
  have w3 := e3.len
  have w4 := e4.len
  obtain ⟨L, hLe⟩ : ∃ L, wholeB N1 ps N2 rs gv gb tv hb M1 M2 = L := ⟨_, rfl⟩
  have h0 := HasAt.self L
  have hlen : L.length = 1 + N1.length + ps.length + N2.length + rs.length + 4 + M1.length + (if hb then M2 else []).length := by
    rw [← hLe]; unfold wholeB; simp only [List.length_append, List.length_singleton]; omega
  have ht : (if hb = true then M2 else []).length ≤ 5 ∧ (hb = true → (if hb = true then M2 else []).length = M2.length) ∧ (hb = false → (if hb = true then M2 else []).length = 0) := by
    cases hb <;> simp <;> omega
  obtain ⟨T, hTe⟩ : ∃ T, (if hb = true then M2 else []) = T := ⟨_, rfl⟩
  rw [hTe] at hlen ht
  obtain ⟨t1, t2, t3⟩ := ht
  conv at h0 => arg 3; rw [← hLe]
  rw [hLe]
  unfold wholeB at h0
  rw [hTe] at h0
  clear hLe
  obtain ⟨a0, h1⟩ := h0.cut (by omega)
  obtain ⟨a1, h2⟩ := h1.cut (by simp)
  obtain ⟨a2, h3⟩ := h2.cut (by simp; omega)
  obtain ⟨a3, h4⟩ := h3.cut (by simp; omega)
  obtain ⟨a4, h5⟩ := h4.cut (by simp; omega)
  obtain ⟨a5, h6⟩ := h5.cut (by simp; omega)
  obtain ⟨a6, h7⟩ := h6.cut (by simp; omega)
  obtain ⟨a7, h8⟩ := h7.cut (by simp; omega)
  obtain ⟨a8, h9⟩ := h8.cut (by simp; omega)
  obtain ⟨a9, a10⟩ := h9.cut (by simp; omega)
  clear h1 h2 h3 h4 h5 h6 h7 h8 h9 h0
  simp only [List.length_singleton, Int.zero_add, Int.natCast_one] at a1 a2 a3 a4 a5 a6 a7 a8 a9 a10
  refine ⟨1 + N1.length, 1 + N1.length + ps.length + N2.length, ?_⟩
  have hcast : ((L.length : Nat) : Int) = 1 + (N1.length : Int) + ps.length + N2.length + rs.length + 4 + M1.length + T.length := by rw [hlen]; push_cast; omega
  generalize ((L.length : Nat) : Int) = lim at hcast
  refine ⟨?_, ?_, ?_, ?_, ?_, ?_, ?_, ?_, ?_⟩
  · exact byte_read a0 (by omega) (by unfold formB; rw [rest_in (by omega), ch_in (by omega) (by omega) (.inl (by omega))]; rfl)
  · obtain ⟨lo, hi, m1, m2, m3⟩ := list_in (a := 1 + 5) (b := 1099511627776) (r := rest (1 + N1.length) lim) (n := ps.length) (by rw [rest_in (by omega)]; omega) (by rw [rest_in (by omega)]; omega) (by omega) (by omega) (by rw [rest_in (by omega)]; omega) (.inl (by omega))
    exact enc_read e1 a1 (by omega) (by omega) m1 m2 m3
  · exact vals_read a2 (by omega) (by omega) hp
  · obtain ⟨lo, hi, m1, m2, m3⟩ := list_in (a := 5) (b := 14) (r := rest (1 + N1.length + ps.length + N2.length) lim) (n := rs.length) (by rw [rest_in (by omega)]; omega) (by rw [rest_in (by omega)]; omega) (by omega) (by omega) (by rw [rest_in (by omega)]; omega) (.inr (by rw [rest_in (by omega)]; omega))
    exact enc_read e2 a3 (by omega) (by omega) m1 m2 m3
  · exact vals_read a4 (by omega) (by omega) hr
  · exact byte_read a5 (by omega) hgv
  · exact byte_read a6 (by omega) (decide_eq_true hgb)
  · refine byte_read (by rw [show (1 + (N1.length : Int) + ps.length + N2.length + rs.length + 2) = 1 + (N1.length : Int) + ps.length + N2.length + rs.length + 1 + 1 by omega]; exact a7) (by omega) ?_
    unfold tabB
    rw [htv, rest_in (by omega), ch_in (by omega) (by omega) (.inr (by show _ ≤ (11 : Int); omega))]; rfl
  · have e8 : (1 + (N1.length : Int) + ps.length + N2.length + rs.length + 2 + 1) = 1 + (N1.length : Int) + ps.length + N2.length + rs.length + 1 + 1 + 1 := by omega
    rw [e8]
    cases hb with
    | false =>
      have t3' := t3 rfl
      refine ⟨byte_read a8 (by omega) ?_, 1 + (N1.length : Int) + ps.length + N2.length + rs.length + 1 + 1 + 1 + 1 + M1.length, ?_, rfl, by omega⟩
      · unfold limB
        rw [rest_in (by omega)]
        show (decide ((0 : Int) ≤ 1) && chB 1 5 _) = true
        rw [ch_in (by omega) (by omega) (.inr (by omega))]; rfl
      · exact enc_read e3 a9 (by omega) (by omega) (index_in (v := mn) (by show (0 : Int) ≤ _; rw [rest_in (by omega)]; omega) (by rw [rest_in (by omega)]; omega) (.inr (by show _ ≤ (0 : Int); rw [rest_in (by omega)]; omega))) e3.v0 e3.v1
    | true =>
      have t2' := t2 rfl
      simp only [if_true] at hTe
      refine ⟨byte_read a8 (by omega) ?_, 1 + (N1.length : Int) + ps.length + N2.length + rs.length + 1 + 1 + 1 + 1 + M1.length, ?_, ?_⟩
      · unfold limB
        rw [rest_in (by omega)]
        show (decide ((1 : Int) ≤ 1) && chB 2 10 _) = true
        rw [ch_in (by omega) (by omega) (.inr (by omega))]; rfl
      · exact enc_read e3 a9 (by omega) (by omega) (index_in (v := mn) (by show (1 : Int) ≤ _; rw [rest_in (by omega)]; omega) (by rw [rest_in (by omega)]; omega) (.inr (by show _ ≤ (5 : Int); rw [rest_in (by omega)]; omega))) e3.v0 e3.v1
      · subst hTe
        have := enc_read (rg := rgI 0 0) (lim := lim) e4 a10 (by omega) (by omega) (index_in (v := mx) (by rw [rest_in (by omega)]; omega) (by rw [rest_in (by omega)]; omega) (.inr (by rw [rest_in (by omega)]; omega))) e4.v0 e4.v1
        rw [show 1 + (N1.length : Int) + ps.length + N2.length + rs.length + 1 + 1 + 1 + 1 + M1.length + M2.length = lim by omega] at this
        exact this
end Go.Proofs.YtiohiiekaofkbaaDoor

/- What WtypeBack does within its try. -/
namespace Go.Proofs.YtiohiiekaofkbaaDoor
set_option linter.unusedVariables false
set_option linter.unusedSimpArgs false
open Go.RowKit

theorem BytesAt.set {A : Option Addr} {l : List Int} {w : World} {B i : Nat} (h : BytesAt A l w) (hA : ∀ ad, A = some ad → ad.block ≠ B) (v : Value) : BytesAt A l (w.setCell ⟨B, i, none⟩ v) := by
  rcases h with h | ⟨ad, rfl, h⟩
  · exact .inl h
  · refine .inr ⟨ad, rfl, fun j x hj => ?_⟩
    rw [World.cell?_setCell_far _ _ _ _ (by rw [add_block]; exact fun e => hA ad rfl e.symm)]
    exact h j x hj
theorem CB.set {g : Nat} {A : Option Addr} {c : Nat} {l : List Int} {p lim : Int} {w : World} {B i : Nat} (h : CB g A c l p lim w) (hB : B ≠ g) (hA : ∀ ad, A = some ad → ad.block ≠ B) (v : Value) : CB g A c l p lim (w.setCell ⟨B, i, none⟩ v) :=
  ⟨h.cu.set hB v, h.at_.set hA v, h.ne, h.p0, h.p1, h.hl, h.l2, h.b8⟩
theorem far_cell {w : World} {B C i j : Nat} {v x : Value} (h : w.cell? ⟨B, i, none⟩ = some x) (hne : C ≠ B) : (w.setCell ⟨C, j, none⟩ v).cell? ⟨B, i, none⟩ = some x := (World.cell?_setCell_far _ _ _ _ hne).trans h
/-- a global's type that is read -/
theorem readGlobal_walk (g : Nat) (A : Option Addr) (c : Nat) (l : List Int) (p lim : Int) (w : World) (v x : Int) (h : CB g A c l p lim w) (hv : byteM (fun x _ => valB x) l p lim = .ok (.int .u8 v, p + 1)) (hx : byteM (fun x _ => decide (x ≤ 1)) l (p + 1) lim = .ok (.int .u8 x, p + 2)) :
    Calls Tryd.prog 48 #[.pointer (some ⟨g, 0, none⟩)] w (Post g A c l lim w (.ok (.agg #[.int .u8 v, .bool (decide (x = 1))], p + 2))) := readGlobal_ok g A c l p lim w v x h hv hx

set_option maxRecDepth 100000 in
set_option maxHeartbeats 4000000 in
theorem wb11_walk (g F G T C : Nat) (A : Option Addr) (c : Nat) (l : List Int) (lim : Int) (ps rs : List Int) (gv gb tv : Int) (hb : Bool) (mn mx p1 p2 : Int) (w : World) (h : CB g A c l 0 lim w) (hG : Glob w) (hO : GlobO w) (hS : GlobS w) (hN : GlobN w) (hgl : 5 ≠ g) (hgo : 4 ≠ g) (hgs : 0 ≠ g) (hgn : 3 ≠ g)
    (hl : l.length ≤ 100000) (hpl : ps.length ≤ 1000) (hrl : rs.length ≤ 1000) (hR : ReadsW l lim ps rs gv gb tv hb mn mx p1 p2)
    (hF : w.heap[F]? = some (.cells #[.slice none 0 0, .slice none 0 0] 56 (0, 0))) (hGl : w.heap[G]? = some (.cells #[.int .u8 0, .bool false] 65 (0, 0))) (hT : w.heap[T]? = some (.cells #[.int .u8 0, .bool false, .int .u32 0, .int .u32 0] 62 (0, 0)))
    (nFg : F ≠ g) (nGg : G ≠ g) (nTg : T ≠ g) (nFG : F ≠ G) (nFT : F ≠ T) (nGT : G ≠ T) (hA : ∀ ad, A = some ad → ad.block ≠ F ∧ ad.block ≠ G ∧ ad.block ≠ T) (hg4 : ∀ B, B = F ∨ B = G ∨ B = T → 6 ≤ B) (nC : C ≠ g) (nCF : C ≠ F) (nCG : C ≠ G) (nCT : C ≠ T) (hc : w.cell? ⟨C, 0, none⟩ = some (.pointer (some ⟨g, 0, none⟩))) :
    Calls Tryd.prog 46 #[.pointer (some ⟨C, 0, none⟩), .pointer (some ⟨F, 0, none⟩), .pointer (some ⟨G, 0, none⟩), .pointer (some ⟨T, 0, none⟩)] w (fun e w' => e = .returned (.tuple #[]) ∧ CB g A c l lim lim w' ∧ Fr (fun i => i = g ∨ i = F ∨ i = G ∨ i = T) w w' ∧
      ∃ v0 v1, OwnV w' w.heap.size v0 ps ∧ OwnV w' w.heap.size v1 rs ∧ w'.cell? ⟨F, 0, none⟩ = some v0 ∧ w'.cell? ⟨F, 1, none⟩ = some v1 ∧ w'.cell? ⟨G, 0, none⟩ = some (.int .u8 gv) ∧ w'.cell? ⟨G, 1, none⟩ = some (.bool (decide (gb = 1))) ∧ w'.cell? ⟨T, 0, none⟩ = some (.int .u8 tv) ∧ w'.cell? ⟨T, 1, none⟩ = some (.bool hb) ∧ w'.cell? ⟨T, 2, none⟩ = some (.int .u32 mn) ∧ w'.cell? ⟨T, 3, none⟩ = some (.int .u32 mx)) := by
  have hF4 := hg4 F (.inl rfl)
  have hG4 := hg4 G (.inr (.inl rfl))
  have hT4 := hg4 T (.inr (.inr rfl))
  have hAF : ∀ ad, A = some ad → ad.block ≠ F := fun ad e => (hA ad e).1
  have hAG : ∀ ad, A = some ad → ad.block ≠ G := fun ad e => (hA ad e).2.1
  have hAT : ∀ ad, A = some ad → ad.block ≠ T := fun ad e => (hA ad e).2.2
  have lF : F < w.heap.size := cell_lt (two_at hF).1
  have lG : G < w.heap.size := cell_lt (two_at hGl).1
  have lT : T < w.heap.size := cell_lt (four_at hT).1
  have HFn := hid (fun W (hC : CB g A c l 0 lim W) (hW : Rd g w W) => readFunc_ok g A c l 0 lim W 5 14 96 ps rs p1 p2 hC (hG.rd hgl hW) (hO.rd hgo hW) (hS.rd hgs hW) hgl hgo hgs (by omega) (by omega) (by omega) (by omega) hpl hrl hR.form hR.n1 hR.v1 hR.n2 hR.v2)
  have HGn := hid (fun W (hC : CB g A c l (p2 + rs.length) lim W) => readGlobal_walk g A c l (p2 + rs.length) lim W gv gb hC hR.gv hR.gb)
  have HTn := hid (fun W (hC : CB g A c l (p2 + rs.length + 2) lim W) (hW : GlobN W) => readTable_ok g A c l (p2 + rs.length + 2) lim W 0 0 tv hb mn mx lim hC hW hgn (by omega) (by omega) (by omega) hR.tv hR.lims)
  have HC := hid h
  have hlt := h.cu.lt
  have BF := hid (fun W (hW : Rd g w W) => two_at ((hW.block F lF (fun e => nFg (Option.some.inj e))).trans hF))
  have NN := hid hN
  have HGl := hid hGl
  have HT := hid hT
  clear h hG hO hS hN hR hF hA hGl hT hg4
  go_enter Tryd.func46, Tryd.ntmps46
  go_upto_region 1 with (first | (go_at_call 47; (with_reducible refine (HFn.out _ (HC.out.below (by repeat (first | exact Below.refl _ _ | assumption | refine Below.alloc ?_ (by first | exact Nat.le_refl _ | (simp; done) | (simp; omega) | omega) _ | refine Below.drew ?_ | refine Below.setCell ?_ (by first | exact Nat.le_refl _ | (simp; done) | (simp; omega) | omega) _ | refine below_call ?_ (by assumption) (by first | exact Nat.le_refl _ | (simp; done) | (simp; omega) | omega)))) (Rd.of_below (by repeat (first | exact Below.refl _ _ | assumption | refine Below.alloc ?_ (by first | exact Nat.le_refl _ | (simp; done) | (simp; omega) | omega) _ | refine Below.drew ?_ | refine Below.setCell ?_ (by first | exact Nat.le_refl _ | (simp; done) | (simp; omega) | omega) _ | refine below_call ?_ (by assumption) (by first | exact Nat.le_refl _ | (simp; done) | (simp; omega) | omega))))).mono ?_); rintro e w1 ⟨v0, v1, rfl, hv0, hv1, HC1, HG1⟩; obtain ⟨A0, c0, rfl⟩ := hv0.slice; obtain ⟨A1, c1, rfl⟩ := hv1.slice; have HC1 := hid HC1; have HR1 := hid ((Rd.of_below (by repeat (first | exact Below.refl _ _ | assumption | refine Below.alloc ?_ (by first | exact Nat.le_refl _ | (simp; done) | (simp; omega) | omega) _ | refine Below.drew ?_ | refine Below.setCell ?_ (by first | exact Nat.le_refl _ | (simp; done) | (simp; omega) | omega) _ | refine below_call ?_ (by assumption) (by first | exact Nat.le_refl _ | (simp; done) | (simp; omega) | omega)))).trans HG1 : Rd g w w1); have HV0 := hid hv0; have HV1 := hid hv1; clear hv0 hv1; have hc1 := HR1.out.cell nC hc; obtain ⟨k0, k1, f0, f1⟩ := BF.out _ HR1.out))
  obtain ⟨w2, hw2⟩ : ∃ w2, w2 = (w1.setCell ⟨F, 0, none⟩ (.slice A0 ps.length c0)).setCell ⟨F, 1, none⟩ (.slice A1 rs.length c1) := ⟨_, rfl⟩
  have x0 : w2.cell? ⟨F, 0, none⟩ = some (.slice A0 ps.length c0) := by rw [hw2]; go_simp
  have x1 : w2.cell? ⟨F, 1, none⟩ = some (.slice A1 rs.length c1) := by rw [hw2]; go_simp
  have hc2 : w2.cell? ⟨C, 0, none⟩ = some (.pointer (some ⟨g, 0, none⟩)) := by rw [hw2]; exact far_cell (far_cell hc1 (Ne.symm nCF)) (Ne.symm nCF)
  have HC2 := hid (show CB g A c l (p2 + rs.length) lim w2 by rw [hw2]; exact (HC1.out.set nFg hAF _).set nFg hAF _)
  have HW0 := hid (show OwnV w2 w.heap.size (.slice A0 ps.length c0) ps by rw [hw2]; exact (HV0.out.set lF _).set lF _)
  have HW1 := hid (show OwnV w2 w.heap.size (.slice A1 rs.length c1) rs by rw [hw2]; exact (HV1.out.set lF _).set lF _)
  have hFr2 : Fr (fun i => i = g ∨ i = F ∨ i = G ∨ i = T) w w2 := by rw [hw2]; exact ((Fr.of_rd HR1.out (.inl rfl)).set (.inr (.inl rfl)) _).set (.inr (.inl rfl)) _
  have HFr2 := hid hFr2
  have HG2 := hid (show w2.heap[G]? = some (.cells #[.int .u8 0, .bool false] 65 (0, 0)) by rw [hw2, heap_setCell_other _ _ _ _ (Ne.symm nFG), heap_setCell_other _ _ _ _ (Ne.symm nFG), HR1.out.block G lG (fun e => nGg (Option.some.inj e))]; exact HGl.out)
  have HT2 := hid (show w2.heap[T]? = some (.cells #[.int .u8 0, .bool false, .int .u32 0, .int .u32 0] 62 (0, 0)) by rw [hw2, heap_setCell_other _ _ _ _ (Ne.symm nFT), heap_setCell_other _ _ _ _ (Ne.symm nFT), HR1.out.block T lT (fun e => nTg (Option.some.inj e))]; exact HT.out)
  have HN2 := hid (show GlobN w2 by rw [hw2]; exact ⟨far_cell (far_cell (HR1.out.cell hgn NN.out.c0) (by omega)) (by omega), far_cell (far_cell (HR1.out.cell hgn NN.out.c1) (by omega)) (by omega)⟩)
  rw [← hw2]
  clear hw2 hFr2 k0 k1 f0 f1 hc1 HV0 HV1 HC1 HR1 HG1 HGl HT NN BF
  go_upto_region 2 with (first | (go_at_call 48; (with_reducible refine (HGn.out _ HC2.out).mono ?_); rintro e w3 ⟨rfl, HC3, HR3⟩; have HC3 := hid HC3; have HR3 := hid HR3; have hc3 := HR3.out.cell nC hc2; obtain ⟨k0, k1, f0, f1⟩ := two_at ((HR3.out.block G (cell_lt (two_at HG2.out).1) (fun e => nGg (Option.some.inj e))).trans HG2.out)))
  obtain ⟨w4, hw4⟩ : ∃ w4, w4 = (w3.setCell ⟨G, 0, none⟩ (.int .u8 gv)).setCell ⟨G, 1, none⟩ (.bool (decide (gb = 1))) := ⟨_, rfl⟩
  have y0 : w4.cell? ⟨F, 0, none⟩ = some (.slice A0 ps.length c0) := by rw [hw4]; exact far_cell (far_cell (HR3.out.cell nFg x0) (Ne.symm nFG)) (Ne.symm nFG)
  have y1 : w4.cell? ⟨F, 1, none⟩ = some (.slice A1 rs.length c1) := by rw [hw4]; exact far_cell (far_cell (HR3.out.cell nFg x1) (Ne.symm nFG)) (Ne.symm nFG)
  have y2 : w4.cell? ⟨G, 0, none⟩ = some (.int .u8 gv) := by rw [hw4]; go_simp
  have y3 : w4.cell? ⟨G, 1, none⟩ = some (.bool (decide (gb = 1))) := by rw [hw4]; go_simp
  have hc4 : w4.cell? ⟨C, 0, none⟩ = some (.pointer (some ⟨g, 0, none⟩)) := by rw [hw4]; exact far_cell (far_cell hc3 (Ne.symm nCG)) (Ne.symm nCG)
  have HC4 := hid (show CB g A c l (p2 + rs.length + 2) lim w4 by rw [hw4]; exact (HC3.out.set nGg hAG _).set nGg hAG _)
  have HW0' := hid (show OwnV w4 w.heap.size (.slice A0 ps.length c0) ps by rw [hw4]; exact ((HW0.out.rd hlt HR3.out).set lG _).set lG _)
  have HW1' := hid (show OwnV w4 w.heap.size (.slice A1 rs.length c1) rs by rw [hw4]; exact ((HW1.out.rd hlt HR3.out).set lG _).set lG _)
  have HFr4 := hid (show Fr (fun i => i = g ∨ i = F ∨ i = G ∨ i = T) w w4 by rw [hw4]; exact ((HFr2.out.trans (Fr.of_rd HR3.out (.inl rfl))).set (.inr (.inr (.inl rfl))) _).set (.inr (.inr (.inl rfl))) _)
  have HT4 := hid (show w4.heap[T]? = some (.cells #[.int .u8 0, .bool false, .int .u32 0, .int .u32 0] 62 (0, 0)) by rw [hw4, heap_setCell_other _ _ _ _ (Ne.symm nGT), heap_setCell_other _ _ _ _ (Ne.symm nGT), HR3.out.block T (cell_lt (four_at HT2.out).1) (fun e => nTg (Option.some.inj e))]; exact HT2.out)
  have HN4 := hid (show GlobN w4 by rw [hw4]; exact ⟨far_cell (far_cell (HR3.out.cell hgn HN2.out.c0) (by omega)) (by omega), far_cell (far_cell (HR3.out.cell hgn HN2.out.c1) (by omega)) (by omega)⟩)
  rw [← hw4]
  clear hw4 k0 k1 f0 f1 hc3 hc2 HC3 HR3 HC2 x0 x1 HW0 HW1 HFr2 HT2 HG2 HN2
  go_wp2_with (first | (go_at_call 49; (with_reducible refine (HTn.out _ HC4.out HN4.out).mono ?_); rintro e w5 ⟨rfl, HC5, HR5⟩; have HC5 := hid HC5; have HR5 := hid HR5; obtain ⟨k0, k1, k2, k3, f0, f1, f2, f3⟩ := four_at ((HR5.out.block T (cell_lt (four_at HT4.out).1) (fun e => nTg (Option.some.inj e))).trans HT4.out)))
  go_end0
  refine ⟨rfl, (((HC5.out.set nTg hAT _).set nTg hAT _).set nTg hAT _).set nTg hAT _, ((((HFr4.out.trans (Fr.of_rd HR5.out (.inl rfl))).set (.inr (.inr (.inr rfl))) _).set (.inr (.inr (.inr rfl))) _).set (.inr (.inr (.inr rfl))) _).set (.inr (.inr (.inr rfl))) _, _, _,
    ((((HW0'.out.rd hlt HR5.out).set lT _).set lT _).set lT _).set lT _, ((((HW1'.out.rd hlt HR5.out).set lT _).set lT _).set lT _).set lT _, ?_, ?_, ?_, ?_, ?_, ?_, ?_, ?_⟩
  · exact far_cell (far_cell (far_cell (far_cell (HR5.out.cell nFg y0) (Ne.symm nFT)) (Ne.symm nFT)) (Ne.symm nFT)) (Ne.symm nFT)
  · exact far_cell (far_cell (far_cell (far_cell (HR5.out.cell nFg y1) (Ne.symm nFT)) (Ne.symm nFT)) (Ne.symm nFT)) (Ne.symm nFT)
  · exact far_cell (far_cell (far_cell (far_cell (HR5.out.cell nGg y2) (Ne.symm nGT)) (Ne.symm nGT)) (Ne.symm nGT)) (Ne.symm nGT)
  · exact far_cell (far_cell (far_cell (far_cell (HR5.out.cell nGg y3) (Ne.symm nGT)) (Ne.symm nGT)) (Ne.symm nGT)) (Ne.symm nGT)
  all_goals go_simp
end Go.Proofs.YtiohiiekaofkbaaDoor

/- What WtypeBack's try does. -/
namespace Go.Proofs.YtiohiiekaofkbaaDoor
set_option linter.unusedVariables false
set_option linter.unusedSimpArgs false
open Go.RowKit

/-- the three types as they were read -/
structure GotW (F G T base : Nat) (ps rs : List Int) (gv gb tv : Int) (hb : Bool) (mn mx : Int) (w' : World) : Prop where
  f : ∃ v0 v1, OwnV w' base v0 ps ∧ OwnV w' base v1 rs ∧ w'.cell? ⟨F, 0, none⟩ = some v0 ∧ w'.cell? ⟨F, 1, none⟩ = some v1
  g0 : w'.cell? ⟨G, 0, none⟩ = some (.int .u8 gv)
  g1 : w'.cell? ⟨G, 1, none⟩ = some (.bool (decide (gb = 1)))
  t0 : w'.cell? ⟨T, 0, none⟩ = some (.int .u8 tv)
  t1 : w'.cell? ⟨T, 1, none⟩ = some (.bool hb)
  t2 : w'.cell? ⟨T, 2, none⟩ = some (.int .u32 mn)
  t3 : w'.cell? ⟨T, 3, none⟩ = some (.int .u32 mx)
theorem GotW.rd {F G T base g : Nat} {ps rs : List Int} {gv gb tv : Int} {hb : Bool} {mn mx : Int} {w w' : World} (h : GotW F G T base ps rs gv gb tv hb mn mx w) (hr : Rd g w w') (nF : F ≠ g) (nG : G ≠ g) (nT : T ≠ g) (hg : g < base) : GotW F G T base ps rs gv gb tv hb mn mx w' := by
  obtain ⟨⟨v0, v1, a, b, c, d⟩, e0, e1, e2, e3, e4, e5⟩ := h
  exact ⟨⟨v0, v1, a.rd hg hr, b.rd hg hr, hr.cell nF c, hr.cell nF d⟩, hr.cell nG e0, hr.cell nG e1, hr.cell nT e2, hr.cell nT e3, hr.cell nT e4, hr.cell nT e5⟩
theorem GotW.mono {F G T base b' : Nat} {ps rs : List Int} {gv gb tv : Int} {hb : Bool} {mn mx : Int} {w : World} (h : GotW F G T base ps rs gv gb tv hb mn mx w) (hle : b' ≤ base) : GotW F G T b' ps rs gv gb tv hb mn mx w := by
  obtain ⟨⟨v0, v1, a, b, c, d⟩, e0, e1, e2, e3, e4, e5⟩ := h
  exact ⟨⟨v0, v1, a.mono hle, b.mono hle, c, d⟩, e0, e1, e2, e3, e4, e5⟩
def DnB (F G T : Nat) (ps rs : List Int) (gv gb tv : Int) (hb : Bool) (mn mx : Int) (n : Nat) (w0 : World) (p : Int) (w' : World) : Prop :=
  p = n ∧ Fr (fun i => i = F ∨ i = G ∨ i = T ∨ w0.heap.size ≤ i) w0 w' ∧ GotW F G T (w0.heap.size + 2) ps rs gv gb tv hb mn mx w'

set_option maxRecDepth 100000 in
set_option maxHeartbeats 4000000 in
theorem wb1_walk (g F G T bb : Nat) (A : Option Addr) (c : Nat) (l : List Int) (ps rs : List Int) (gv gb tv : Int) (hb : Bool) (mn mx p1 p2 : Int) (w0 w : World) (hw0 : Below w0.heap.size w0 w) (h : CB g A c l 0 (-1) w) (hg : g = w0.heap.size + 1 + 1) (hw : w.heap.size = w0.heap.size + 1 + 1 + 1)
    (hG : Glob w) (hO : GlobO w) (hS : GlobS w) (hN : GlobN w) (hl : l.length ≤ 100000) (hpl : ps.length ≤ 1000) (hrl : rs.length ≤ 1000) (hR : ReadsW l l.length ps rs gv gb tv hb mn mx p1 p2)
    (hF : w.heap[F]? = some (.cells #[.slice none 0 0, .slice none 0 0] 56 (0, 0))) (hGl : w.heap[G]? = some (.cells #[.int .u8 0, .bool false] 65 (0, 0))) (hT : w.heap[T]? = some (.cells #[.int .u8 0, .bool false, .int .u32 0, .int .u32 0] 62 (0, 0)))
    (lF : F < w0.heap.size) (lG : G < w0.heap.size) (lT : T < w0.heap.size) (l5 : 6 ≤ w0.heap.size) (nFG : F ≠ G) (nFT : F ≠ T) (nGT : G ≠ T) (hA : ∀ ad, A = some ad → ad.block ≠ F ∧ ad.block ≠ G ∧ ad.block ≠ T) (hg4 : ∀ B, B = F ∨ B = G ∨ B = T → 6 ≤ B) (hb0 : w.cell? ⟨bb, 0, none⟩ = some (.slice A l.length c)) :
    Calls Tryd.prog 44 #[.pointer (some ⟨g, 0, none⟩), .pointer (some ⟨bb, 0, none⟩), .pointer (some ⟨F, 0, none⟩), .pointer (some ⟨G, 0, none⟩), .pointer (some ⟨T, 0, none⟩)] w (Does w0.heap.size A c l (DnB F G T ps rs gv gb tv hb mn mx l.length w0) (fun _ _ _ => False) w) := by
  have hin : inLim 0 (-1) l.length = l.length := by unfold inLim rest; rw [if_pos (by omega)]; omega
  have lbb := cell_lt hb0
  have HW := hid (fun W (hW : Below w.heap.size w W) (hbx : W.cell? ⟨w.heap.size, 0, none⟩ = some (.pointer (some ⟨g, 0, none⟩))) => within_walk g A c l 0 (-1) l.length W 46 #[.pointer (some ⟨w.heap.size, 0, none⟩), .pointer (some ⟨F, 0, none⟩), .pointer (some ⟨G, 0, none⟩), .pointer (some ⟨T, 0, none⟩)] (fun p W' => p = l.length ∧ Fr (fun i => i = g ∨ i = F ∨ i = G ∨ i = T) W W' ∧ GotW F G T W.heap.size ps rs gv gb tv hb mn mx W') (fun _ _ _ => False) (h.below hW) (.inl (by omega)) (by omega) (by omega) (enters Tryd.func46 (by kernel_rfl) rfl)
    (fun V hV hC => (wb11_walk g F G T w.heap.size A c l l.length ps rs gv gb tv hb mn mx p1 p2 V (by rwa [hin] at hC) ((hG.of hW).rd (by omega) hV) (hO.rd (by omega) ((Rd.of_below hW).trans hV)) (hS.rd (by omega) ((Rd.of_below hW).trans hV)) (hN.rd (by omega) ((Rd.of_below hW).trans hV)) (by omega) (by omega) (by omega) (by omega) hl hpl hrl hR
      ((hV.block F (by have := hW.size; omega) (fun e => by have := Option.some.inj e; omega)).trans ((hW.block F (by omega)).trans hF)) ((hV.block G (by have := hW.size; omega) (fun e => by have := Option.some.inj e; omega)).trans ((hW.block G (by omega)).trans hGl)) ((hV.block T (by have := hW.size; omega) (fun e => by have := Option.some.inj e; omega)).trans ((hW.block T (by omega)).trans hT))
      (by omega) (by omega) (by omega) nFG nFT nGT hA hg4 (by omega) (by omega) (by omega) (by omega) (hV.cell (by omega) hbx)).mono (fun e W' ⟨q1, q2, q3, v0, v1, o0, o1, c0, c1, c2, c3, c4, c5, c6, c7⟩ => .inl ⟨q1, l.length, by rwa [hin], rfl, (Fr.of_rd hV (.inl rfl)).trans q3, ⟨⟨v0, v1, o0.mono hV.size, o1.mono hV.size, c0, c1⟩, c2, c3, c4, c5, c6, c7⟩⟩)))
  have HH := hid (And.intro hg hw)
  have HIN := hid hin
  have hg1 : w0.heap.size + 1 < g := by omega
  have hg2 : g < w.heap.size := by omega
  clear h hg hw hin hG hO hS hN hR hF hGl hT hA hg4
  have hmf : ∀ (fn : Fn) (first cap : Array Value) (w : World), (Instr.makeFunc fn first cap).run Tryd.prog w = .ok (.func fn first cap) w := fun _ _ _ _ => rfl
  go_enter Tryd.func44, Tryd.ntmps44
  go_wp2_with (first | (go_at_call 45; go_loud ((with_reducible refine (HW.out _ (by repeat (first | exact Below.refl _ _ | assumption | refine Below.alloc ?_ (by first | exact Nat.le_refl _ | (simp; done) | (simp; omega) | omega) _ | refine Below.drew ?_ | refine Below.setCell ?_ (by first | exact Nat.le_refl _ | (simp; done) | (simp; omega) | omega) _ | refine below_call ?_ (by assumption) (by first | exact Nat.le_refl _ | (simp; done) | (simp; omega) | omega))) (by go_simp)).mono ?_); rintro e w1 (⟨rfl, p', w', rfl, ⟨-, HF, HGot⟩, HC1, HG1⟩ | ⟨p', w', hp, ⟨h4, -, -⟩, -, -⟩ | ⟨q, er, -, hf⟩); all_goals (first | exact hf.elim | exact absurd (h4.trans HIN.out.symm) hp | skip))))
  · go_end0
    have hF : Fr (fun i => i = g ∨ i = F ∨ i = G ∨ i = T) w w1 := ((Fr.of_below (by repeat (first | exact Below.refl _ _ | assumption | refine Below.alloc ?_ (by first | exact Nat.le_refl _ | (simp; done) | (simp; omega) | omega) _ | refine Below.drew ?_ | refine Below.setCell ?_ (by first | exact Nat.le_refl _ | (simp; done) | (simp; omega) | omega) _ | refine below_call ?_ (by assumption) (by first | exact Nat.le_refl _ | (simp; done) | (simp; omega) | omega)))).trans HF).trans (Fr.of_rd HG1 (.inl rfl))
    have hz := hw0.size
    have hGot : GotW F G T (w0.heap.size + 2) ps rs gv gb tv hb mn mx w1 := (HGot.rd HG1 (by omega) (by omega) (by omega) (by simp; omega)).mono (by simp; omega)
    refine ⟨hF.size, fun i hi => hF.block i (by omega) (by omega), .inl ⟨rfl, l.length, -1, ?_, rfl, (Fr.of_below hw0).trans (hF.mono (fun i _ q => by omega)), hGot⟩⟩
    rw [← HH.out.1]
    have := HC1.cu
    rwa [HIN.out] at this
end Go.Proofs.YtiohiiekaofkbaaDoor

/- WtypeBack's try, whole. -/
namespace Go.Proofs.YtiohiiekaofkbaaDoor
set_option linter.unusedVariables false
set_option linter.unusedSimpArgs false
open Go.RowKit

theorem OwnV.same {w w' : World} {base : Nat} {v : Value} {l : List Int} (h : OwnV w base v l) (hb : ∀ k, base ≤ k → k < w.heap.size → w'.heap[k]? = w.heap[k]?) : OwnV w' base v l := by
  refine ⟨h.1, ?_⟩
  rcases h.2 with hn | ⟨g, cap, cur, e, h1, h2, h3⟩
  · exact .inl hn
  · refine .inr ⟨g, cap, cur, e, h1, ?_, h3⟩
    have : g < w.heap.size := by
      rcases Nat.lt_or_ge g w.heap.size with q | q
      · exact q
      · rw [Array.getElem?_eq_none q] at h2; cases h2
    rw [hb g h1 this]; exact h2
theorem GotW.off {F G T B : Nat} {ps rs : List Int} {gv gb tv : Int} {hb : Bool} {mn mx : Int} {w w' : World} (h : GotW F G T (B + 2) ps rs gv gb tv hb mn mx w) (k : Off2 B (B + 1) w w') (lF : F < B) (lG : G < B) (lT : T < B) : GotW F G T (B + 2) ps rs gv gb tv hb mn mx w' := by
  obtain ⟨⟨v0, v1, a, b, c, d⟩, e0, e1, e2, e3, e4, e5⟩ := h
  have hc : ∀ X i v, X < B → w.cell? ⟨X, i, none⟩ = some v → w'.cell? ⟨X, i, none⟩ = some v := fun X i v hX hv => (World.cell?_of_block (a := ⟨X, i, none⟩) (k.block X (cell_lt hv) (by omega) (by omega))).trans hv
  have hs : ∀ q, B + 2 ≤ q → q < w.heap.size → w'.heap[q]? = w.heap[q]? := fun q h1 h2 => k.block q h2 (by omega) (by omega)
  exact ⟨⟨v0, v1, a.same hs, b.same hs, hc _ _ _ lF c, hc _ _ _ lF d⟩, hc _ _ _ lG e0, hc _ _ _ lG e1, hc _ _ _ lT e2, hc _ _ _ lT e3, hc _ _ _ lT e4, hc _ _ _ lT e5⟩
theorem tryW_walk (w : World) (F G T bb : Nat) (ad : Addr) (c : Nat) (l ps rs : List Int) (gv gb tv : Int) (hb : Bool) (mn mx p1 p2 : Int) (hG : Glob w) (hO : GlobO w) (hS : GlobS w) (hN : GlobN w) (hl : l.length ≤ 100000) (h8 : ∀ x ∈ l, 0 ≤ x ∧ x < 256) (hpl : ps.length ≤ 1000) (hrl : rs.length ≤ 1000) (hR : ReadsW l l.length ps rs gv gb tv hb mn mx p1 p2)
    (hAt : BytesAt (some ad) l w) (had : ad.block < w.heap.size)
    (hF : w.heap[F]? = some (.cells #[.slice none 0 0, .slice none 0 0] 56 (0, 0))) (hGl : w.heap[G]? = some (.cells #[.int .u8 0, .bool false] 65 (0, 0))) (hT : w.heap[T]? = some (.cells #[.int .u8 0, .bool false, .int .u32 0, .int .u32 0] 62 (0, 0)))
    (nFG : F ≠ G) (nFT : F ≠ T) (nGT : G ≠ T) (hA : ad.block ≠ F ∧ ad.block ≠ G ∧ ad.block ≠ T) (hg4 : ∀ B, B = F ∨ B = G ∨ B = T → 6 ≤ B) (hb0 : w.cell? ⟨bb, 0, none⟩ = some (.slice (some ad) l.length c)) :
    Calls Tryd.prog 43 #[.slice (some ad) l.length c, .func (.func 44) #[] #[.pointer (some ⟨bb, 0, none⟩), .pointer (some ⟨F, 0, none⟩), .pointer (some ⟨G, 0, none⟩), .pointer (some ⟨T, 0, none⟩)]] w (fun e w' => e = .returned (.tuple #[.int .i64 l.length, .int .i64 0]) ∧ Fr (fun i => i = F ∨ i = G ∨ i = T) w w' ∧ GotW F G T (w.heap.size + 2) ps rs gv gb tv hb mn mx w') := by
  have lF : F < w.heap.size := cell_lt (two_at hF).1
  have lG : G < w.heap.size := cell_lt (two_at hGl).1
  have lT : T < w.heap.size := cell_lt (four_at hT).1
  have l10 : 6 ≤ F := hg4 F (.inl rfl)
  refine (try_walk (some ad) c l w 44 #[.pointer (some ⟨bb, 0, none⟩), .pointer (some ⟨F, 0, none⟩), .pointer (some ⟨G, 0, none⟩), .pointer (some ⟨T, 0, none⟩)] (DnB F G T ps rs gv gb tv hb mn mx l.length w) (fun _ _ _ => False) (enters Tryd.func44 (by kernel_rfl) rfl) ?_).mono ?_
  · intro W hW hz hC
    exact wb1_walk (w.heap.size + 1 + 1) F G T bb (some ad) c l ps rs gv gb tv hb mn mx p1 p2 w W hW ⟨hC, hAt.fr (P := fun _ => False) (fun _ _ q => q) (Fr.of_below hW), fun a e => by cases e; show ad.block ≠ _; omega, by omega, by omega, by omega, by omega, h8⟩ rfl hz (hG.of hW) ⟨still hW hO.c0, still hW hO.c1⟩ ⟨still hW hS.c0, still hW hS.c1⟩ ⟨still hW hN.c0, still hW hN.c1⟩ hl hpl hrl hR
      (blkB hF hW) (blkB hGl hW) (blkB hT hW) lF lG lT (by omega) nFG nFT nGT (fun a e => by cases e; exact hA) hg4 (still hW hb0)
  · rintro e w' ⟨w1, hO2, (⟨p, rfl, rfl, hFr, hg⟩ | ⟨p, er, -, hf⟩)⟩
    · exact ⟨rfl, (hFr.off hO2 (Nat.le_refl _) (by omega)).mono (fun i hi q => by omega), hg.off hO2 lF lG lT⟩
    · exact hf.elim
end Go.Proofs.YtiohiiekaofkbaaDoor
