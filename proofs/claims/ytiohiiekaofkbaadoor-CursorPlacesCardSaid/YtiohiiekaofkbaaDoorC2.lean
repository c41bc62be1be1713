/- The cursor: is a rest in a span; rests further on; may a number come out. -/
import Derived.Test.YtiohiiekaofkbaaDoorC1
import Derived.Test.YtiohiiekaofkbaaDoorS5
namespace Go.Proofs.YtiohiiekaofkbaaDoor
set_option linter.unusedVariables false
set_option linter.unusedSimpArgs false
open Go.RowKit

/-- is a rest in a span (one without a bound just in one without a bound) -/
def chB (a b r : Int) : Bool := if 1099511627776 ≤ r then decide (1099511627776 ≤ b) else hasB a b r
set_option maxHeartbeats 1000000 in
theorem chas_any (a b r : Int) (w : World) :
    Calls Tryd.prog 152 #[.agg #[.int .i64 a, .int .i64 b], .int .i64 r] w fun e w' => e = .returned (.bool (chB a b r)) ∧ Below w.heap.size w w' := by
  by_cases h : 1099511627776 ≤ r
  · go_enter Tryd.func152, Tryd.ntmps152
    go_wp2
    go_ret
    exact ⟨ret_bool (by rw [chB, if_pos h]), (by repeat (first | exact Below.refl _ _ | assumption | refine Below.alloc ?_ (by first | exact Nat.le_refl _ | (simp; done) | (simp; omega) | omega) _ | refine Below.drew ?_ | refine Below.setCell ?_ (by first | exact Nat.le_refl _ | (simp; done) | (simp; omega) | omega) _ | refine below_call ?_ (by assumption) (by first | exact Nat.le_refl _ | (simp; done) | (simp; omega) | omega)))⟩
  · have e : chB a b r = hasB a b r := by rw [chB, if_neg h]
    rw [e]
    clear e
    go_enter Tryd.func152, Tryd.ntmps152
    go_wp2_with (first | (go_at_call 142; refine (has_any _ _ _ _).mono ?_; rintro e w' ⟨rfl, hb1⟩; (first | have hq1 := hz1 | have hq1 := True.intro); (first | have hq0 := hz0 | have hq0 := True.intro); obtain ⟨hcc, hff⟩ := bcell hb1; have hz1 := hb1.size; (try simp at hz1); (try have hy1 := Nat.lt_of_lt_of_le hq1 hz1); (try have hy0 := Nat.lt_of_lt_of_le hq0 hz1); (try replace hz1 := Nat.lt_of_succ_le hz1); (try have hz0 := Nat.lt_of_succ_lt hz1)))
    go_ret
    exact ⟨rfl, (by repeat (first | exact Below.refl _ _ | assumption | refine Below.alloc ?_ (by first | exact Nat.le_refl _ | (simp; done) | (simp; omega) | omega) _ | refine Below.drew ?_ | refine Below.setCell ?_ (by first | exact Nat.le_refl _ | (simp; done) | (simp; omega) | omega) _ | refine below_call ?_ (by assumption) (by first | exact Nat.le_refl _ | (simp; done) | (simp; omega) | omega)))⟩
set_option maxHeartbeats 1000000 in
theorem whas_any (a b r : Int) (w : World) :
    Calls Tryd.prog 96 #[.agg #[.int .i64 a, .int .i64 b], .int .i64 r] w fun e w' => e = .returned (.bool (chB a b r)) ∧ Below w.heap.size w w' := by
  by_cases h : 1099511627776 ≤ r
  · go_enter Tryd.func96, Tryd.ntmps96
    go_wp2
    go_ret
    exact ⟨ret_bool (by rw [chB, if_pos h]), (by repeat (first | exact Below.refl _ _ | assumption | refine Below.alloc ?_ (by first | exact Nat.le_refl _ | (simp; done) | (simp; omega) | omega) _ | refine Below.drew ?_ | refine Below.setCell ?_ (by first | exact Nat.le_refl _ | (simp; done) | (simp; omega) | omega) _ | refine below_call ?_ (by assumption) (by first | exact Nat.le_refl _ | (simp; done) | (simp; omega) | omega)))⟩
  · have e : chB a b r = hasB a b r := by rw [chB, if_neg h]
    rw [e]
    clear e
    go_enter Tryd.func96, Tryd.ntmps96
    go_wp2_with (first | (go_at_call 142; refine (has_any _ _ _ _).mono ?_; rintro e w' ⟨rfl, hb1⟩; (first | have hq1 := hz1 | have hq1 := True.intro); (first | have hq0 := hz0 | have hq0 := True.intro); obtain ⟨hcc, hff⟩ := bcell hb1; have hz1 := hb1.size; (try simp at hz1); (try have hy1 := Nat.lt_of_lt_of_le hq1 hz1); (try have hy0 := Nat.lt_of_lt_of_le hq0 hz1); (try replace hz1 := Nat.lt_of_succ_le hz1); (try have hz0 := Nat.lt_of_succ_lt hz1)))
    go_ret
    exact ⟨rfl, (by repeat (first | exact Below.refl _ _ | assumption | refine Below.alloc ?_ (by first | exact Nat.le_refl _ | (simp; done) | (simp; omega) | omega) _ | refine Below.drew ?_ | refine Below.setCell ?_ (by first | exact Nat.le_refl _ | (simp; done) | (simp; omega) | omega) _ | refine below_call ?_ (by assumption) (by first | exact Nat.le_refl _ | (simp; done) | (simp; omega) | omega)))⟩
/-- the rest behind some bytes more -/
def wiR (p lim j : Int) : Int := if lim < 0 then 1099511627776 else lim - p - j
set_option maxHeartbeats 1000000 in
theorem cwithin_any {g : Nat} {A : Option Addr} {c : Nat} {l : List Int} {p lim : Int} {w : World} (h : CB g A c l p lim w) (j : Int) (j0 : 0 ≤ j) (j1 : j ≤ 1000) (W : World) (hb : Below w.heap.size w W) :
    Calls Tryd.prog 165 #[.pointer (some ⟨g, 0, none⟩), .int .i64 j] W (fun e w' => e = .returned (.int .i64 (wiR p lim j)) ∧ Below W.heap.size W w') := by
  have HR := hid (rest_b (h.below hb))
  have p0 := h.p0
  have p1 := h.p1
  have hl := h.hl
  have l1 := h.l1
  obtain ⟨c0, c1, c2, f1, f2⟩ := h.cu.below hb
  by_cases hlim : lim < 0
  · go_enter Tryd.func165, Tryd.ntmps165
    go_wp2
    go_ret
    exact ⟨ret_int (by rw [wiR, if_pos hlim]), Below.refl _ _⟩
  · have e : rest p lim = lim - p := by rw [rest, if_neg hlim]
    rw [e] at HR
    clear e
    go_enter Tryd.func165, Tryd.ntmps165
    go_wp2_with (first | (go_at_call 68; refine (HR.out _ (Below.refl _ _)).mono ?_; rintro e w' ⟨rfl, hb1⟩))
    go_ret
    exact ⟨ret_int (by rw [wiR, if_neg (by omega)]), hb1⟩

/-- a row of ranges -/
def RowR (w : World) (A : Option Addr) (l : List (Int × Int)) : Prop := l = [] ∨ ∃ g, A = some ⟨g, 0, none⟩ ∧ g < w.heap.size ∧ RangesAt w g l
/-- a want: of a rest it tells ranges; it holds as long as nothing but the cursor changes -/
structure Wants (g k : Nat) (caps : Array Value) (w : World) (rg : Int → List (Int × Int)) : Prop where
  ent : Enters k
  len : ∀ r, (rg r).length ≤ 1000
  call : ∀ r, 0 ≤ r → r ≤ 1099511627776 → ∀ W, Rd g w W → Calls Tryd.prog k (#[.int .i64 r] ++ caps) W (fun e w' => ∃ A c, e = .returned (.slice A (rg r).length c) ∧ RowR w' A (rg r) ∧ Below W.heap.size W w')
theorem Wants.rd {g k : Nat} {caps : Array Value} {w w' : World} {rg : Int → List (Int × Int)} (h : Wants g k caps w rg) (hg : Rd g w w') : Wants g k caps w' rg :=
  ⟨h.ent, h.len, fun r r0 r1 W hW => h.call r r0 r1 W (hg.trans hW)⟩
theorem fits_row {A : Option Addr} {cap : Nat} {l : List (Int × Int)} {low shift left : Int} {w : World} (hl : l.length ≤ 1000) (hR : RowR w A l) (hlo : 0 ≤ low) (hlo2 : low < 2 ^ shift.toNat) (hs : 0 ≤ shift) (hs2 : shift ≤ 63) (hf : 0 ≤ left) (hf2 : left ≤ 9) :
    Calls Tryd.prog 146 #[.slice A l.length cap, .int .u64 low, .int .i64 shift, .int .i64 left, .int .i64 32] w fun e w' => e = .returned (.bool (fitsI low shift left 32 l)) ∧ Below w.heap.size w w' := by
  rcases hR with rfl | ⟨g, rfl, hg, hR⟩
  · exact fits_nil cap A low shift left 32 w hlo hlo2 hs hs2 hf hf2 (by decide) (by decide)
  · exact fits_any g cap l low shift left 32 w (by omega) hg (hid hR) hlo hlo2 hs hs2 hf hf2 (by decide) (by decide)
/-- may a number come out with 1 to n bytes more -/
def openN (rg : Int → List (Int × Int)) (p lim v shift : Int) : Nat → Bool
  | 0 => false
  | n + 1 => openN rg p lim v shift n || (decide (0 ≤ wiR p lim (n + 1 : Nat)) && fitsI v shift (n + 1 : Nat) 32 (rg (wiR p lim (n + 1 : Nat))))
theorem openN_mono {rg : Int → List (Int × Int)} {p lim v shift : Int} {i n : Nat} (h : openN rg p lim v shift i = true) (hi : i ≤ n) : openN rg p lim v shift n = true := by
  induction n with
  | zero => have : i = 0 := by omega
            subst this; exact h
  | succ n ih => rcases Nat.lt_or_ge i (n + 1) with q | q
                 · rw [openN, ih (by omega), Bool.true_or]
                 · have : i = n + 1 := by omega
                   subst this; exact h

theorem openN_step {rg : Int → List (Int × Int)} {p lim v shift : Int} {j : Nat} (j0 : 1 ≤ j) (h : openN rg p lim v shift (j - 1) = false) :
    openN rg p lim v shift j = (decide (0 ≤ wiR p lim j) && fitsI v shift j 32 (rg (wiR p lim j))) := by
  obtain ⟨i, rfl⟩ : ∃ i, j = i + 1 := ⟨j - 1, by omega⟩
  rw [openN, show openN rg p lim v shift i = false from h, Bool.false_or]

set_option maxHeartbeats 4000000 in
theorem open_walk (g : Nat) (A : Option Addr) (c : Nat) (l : List Int) (p lim : Int) (w : World) (k : Nat) (caps : Array Value) (rg : Int → List (Int × Int)) (v shift : Int) (n : Nat)
    (h : CB g A c l p lim w) (hw : Wants g k caps w rg) (hv : 0 ≤ v) (hv2 : v < 2 ^ shift.toNat) (hs : 0 ≤ shift) (hs2 : shift ≤ 63) (hn : n ≤ 9) :
    Calls Tryd.prog 145 #[.pointer (some ⟨g, 0, none⟩), .func (.func k) #[] caps, .int .u64 v, .int .i64 shift, .int .i64 n] w (fun e w' => e = .returned (.bool (openN rg p lim v shift n)) ∧ Below w.heap.size w w') := by
  have HC := hid h
  have HW := hid hw
  have HE : ∀ (args : Array Value) (w : World), (callFunc k args).run Tryd.prog w = .ok (.enter k args) w := hw.ent
  clear h hw
  go_enter Tryd.func145, Tryd.ntmps145
  go_wp2
  go_loopw [11] (fun v11 wr => ∃ j : Nat, v11 = .int .i64 j ∧ 1 ≤ j ∧ j ≤ n + 1 ∧ Hid (openN rg p lim v shift (j - 1) = false) ∧ w.heap.size ≤ wr.heap.size ∧ Hid (Below w.heap.size w wr)) (fun v11 _ => n + 1 - (intOf v11).toNat)
  case atStart => exact ⟨1, by go_num, by omega, by omega, hid rfl, Nat.le_refl _, Below.refl _ _⟩
  case round =>
    obtain ⟨j, rfl, j0, j1, HO, hsz, HB⟩ := hrel
    by_cases hlt : j ≤ n
    · have hlt' : (j : Int) ≤ (n : Int) := by omega
      by_cases hr : 0 ≤ wiR p lim j
      · by_cases hf : fitsI v shift j 32 (rg (wiR p lim j)) = true
        · have HF := hid (openN_mono (i := j) (n := n) (by rw [openN_step j0 HO.out, hf, decide_eq_true hr]; rfl) hlt)
          go_wp2_with (first | (go_at_call 165; refine (cwithin_any HC.out _ (by omega) (by omega) _ HB.out).mono ?_; rintro e w1 ⟨rfl, hb1⟩) | ((with_reducible refine (HW.out.call _ hr (by unfold wiR; have := HC.out.p0; have := HC.out.l2; split <;> omega) _ (grown_of_below (HB.out.trans (hb1.mono HB.out.size)) _)).mono ?_); rintro e w2 ⟨A2, c2, rfl, hR2, hb2⟩; have HR2 := hid hR2; clear hR2) | (go_at_call 146; refine (fits_row (HW.out.len _) HR2.out hv hv2 hs hs2 (by omega) (by omega)).mono ?_; rintro e w3 ⟨rfl, hb3⟩))
          go_ret
          exact ⟨ret_bool HF.out.symm, HB.out.trans ((hb1.trans (hb2.mono hb1.size)).trans (hb3.mono (Nat.le_trans hb1.size hb2.size)) |>.mono HB.out.size)⟩
        · have hf' : fitsI v shift j 32 (rg (wiR p lim j)) = false := by simpa using hf
          have HF := hid (show openN rg p lim v shift j = false by rw [openN_step j0 HO.out, hf', Bool.and_false])
          clear hf
          go_wp2_with (first | (go_at_call 165; refine (cwithin_any HC.out _ (by omega) (by omega) _ HB.out).mono ?_; rintro e w1 ⟨rfl, hb1⟩) | ((with_reducible refine (HW.out.call _ hr (by unfold wiR; have := HC.out.p0; have := HC.out.l2; split <;> omega) _ (grown_of_below (HB.out.trans (hb1.mono HB.out.size)) _)).mono ?_); rintro e w2 ⟨A2, c2, rfl, hR2, hb2⟩; have HR2 := hid hR2; clear hR2) | (go_at_call 146; refine (fits_row (HW.out.len _) HR2.out hv hv2 hs hs2 (by omega) (by omega)).mono ?_; rintro e w3 ⟨rfl, hb3⟩))
          go_roundw
          case rel => exact ⟨j + 1, by go_num, by omega, by omega, hid (by simpa using HF.out), Nat.le_trans hsz (Nat.le_trans hb1.size (Nat.le_trans hb2.size hb3.size)), hid (HB.out.trans ((hb1.trans (hb2.mono hb1.size)).trans (hb3.mono (Nat.le_trans hb1.size hb2.size)) |>.mono HB.out.size))⟩
          case measure => simp [intOf]; omega
      · have HF := hid (show openN rg p lim v shift j = false by rw [openN_step j0 HO.out, decide_eq_false hr, Bool.false_and])
        go_wp2_with (first | (go_at_call 165; refine (cwithin_any HC.out _ (by omega) (by omega) _ HB.out).mono ?_; rintro e w1 ⟨rfl, hb1⟩) | ((with_reducible refine (HW.out.call _ (by omega) (by unfold wiR; have := HC.out.p0; have := HC.out.l2; split <;> omega) _ (grown_of_below (HB.out.trans (hb1.mono HB.out.size)) _)).mono ?_); rintro e w2 ⟨A2, c2, rfl, hR2, hb2⟩; have HR2 := hid hR2; clear hR2) | (go_at_call 146; refine (fits_row (HW.out.len _) HR2.out hv hv2 hs hs2 (by omega) (by omega)).mono ?_; rintro e w3 ⟨rfl, hb3⟩))
        go_roundw
        case rel => exact ⟨j + 1, by go_num, by omega, by omega, hid (by simpa using HF.out), Nat.le_trans hsz hb1.size, hid (HB.out.trans (hb1.mono HB.out.size))⟩
        case measure => simp [intOf]; omega
    · go_wp2
      go_ret
      exact ⟨ret_bool (by have : j = n + 1 := by omega
                          subst this; exact HO.out.symm), HB.out⟩
end Go.Proofs.YtiohiiekaofkbaaDoor
