/- Contract of Fits. -/
import Derived.Test.YtiohiiekaofkbaaDoorS3
import Derived.Deep.LoopGhost
import Derived.Deep.DeepCutAuto
namespace Go.Proofs.YtiohiiekaofkbaaDoor
set_option linter.unusedVariables false
set_option linter.unusedSimpArgs false
open Go.RowKit
def fitV (T low lo : Int) : Int := if low < lo then low + (lo - low + T - 1) / T * T else low
def fitOne (T M low : Int) (x : Int × Int) : Bool := decide (x.1 ≤ x.2 ∧ low ≤ M ∧ fitV T low x.1 ≤ x.2 ∧ fitV T low x.1 ≤ M)
def fitsB (T M low : Int) (l : List (Int × Int)) : Bool := l.any (fitOne T M low)

/-- what the walk spells -/
def wrapV (T low lo : Int) : Int := IntKind.u64.wrap (low + IntKind.u64.wrap (IntKind.u64.wrap (IntKind.u64.wrap (lo - low + T) - 1) / T * T))


theorem fitV_ge {T low lo : Int} (h1 : 1 ≤ T) (h : low < lo) : lo ≤ fitV T low lo ∧ fitV T low lo ≤ lo + T - 1 := by
  unfold fitV; rw [if_pos h]
  have a := Int.ediv_mul_le (lo - low + T - 1) (b := T) (by omega)
  have b := Int.lt_ediv_add_one_mul_self (lo - low + T - 1) (b := T) (by omega)
  rw [Int.add_mul, Int.one_mul] at b
  omega

theorem wrapV_eq {T low lo : Int} (h0 : 0 ≤ low) (h1 : 1 ≤ T) (h2 : T ≤ 9223372036854775808) (h3 : low < T) (h : low < lo) (h4 : lo < 9223372036854775808) : wrapV T low lo = fitV T low lo := by
  have g := fitV_ge h1 h
  unfold fitV at *; rw [if_pos h] at *
  unfold wrapV
  have e1 : IntKind.u64.wrap (IntKind.u64.wrap (lo - low + T) - 1) = lo - low + T - 1 := by simp only [wu]; omega
  rw [e1]
  simp only [wu]
  omega

theorem wrapV_bd (T low lo : Int) : 0 ≤ wrapV T low lo := by unfold wrapV; simp only [wu]; omega

theorem one_gt {T M low lo hi : Int} (h0 : 0 ≤ low) (h1 : 1 ≤ T) (h2 : T ≤ 9223372036854775808) (h3 : low < T) (hM : M ≤ 9223372036854775807) (h : low < lo) (hh : lo ≤ hi) (hm : low ≤ M) :
    (lo ≤ wrapV T low lo ∧ wrapV T low lo ≤ if M < hi then M else hi) ↔ fitOne T M low (lo, hi) = true := by
  have g := fitV_ge h1 h
  simp only [fitOne, decide_eq_true_eq]
  by_cases h4 : lo < 9223372036854775808
  · rw [wrapV_eq h0 h1 h2 h3 h h4]
    split <;> omega
  · split <;> omega

theorem one_le {T M low lo hi : Int} (h : lo ≤ low) (hh : lo ≤ hi) (hm : low ≤ M) : (low ≤ if M < hi then M else hi) ↔ fitOne T M low (lo, hi) = true := by
  simp only [fitOne, decide_eq_true_eq, fitV, if_neg (show ¬ low < lo by omega)]
  split <;> omega

theorem one_no {T M low lo hi : Int} (h : ¬ (lo ≤ hi ∧ low ≤ M)) : fitOne T M low (lo, hi) = false := by
  simp only [fitOne, decide_eq_false_iff_not]
  omega

def RangesAt (w : World) (g : Nat) (l : List (Int × Int)) : Prop := ∀ (i : Nat) (h : i < l.length), w.cell? ⟨g, i * 2, none⟩ = some (.int .u64 l[i].1) ∧ w.cell? ⟨g, i * 2 + 1, none⟩ = some (.int .u64 l[i].2) ∧ 0 ≤ l[i].1 ∧ l[i].1 ≤ 18446744073709551615 ∧ 0 ≤ l[i].2 ∧ l[i].2 ≤ 18446744073709551615

theorem any_take {α : Type} (p : α → Bool) (l : List α) (k : Nat) (h : k < l.length) : (l.take (k + 1)).any p = ((l.take k).any p || p l[k]) := by
  rw [List.take_succ_eq_append_getElem h, List.any_append]; simp
theorem any_of_mem {α : Type} (p : α → Bool) (l : List α) (k : Nat) (h : k < l.length) (hp : p l[k] = true) : l.any p = true :=
  List.any_eq_true.mpr ⟨l[k], List.getElem_mem h, hp⟩

set_option maxHeartbeats 2000000 in
theorem fits_low (g : Nat) (cap : Nat) (l : List (Int × Int)) (low shift left bits T B R : Int) (w : World) (hl : l.length ≤ 4611686018427387904) (hg : g < w.heap.size) (hR : Hid (RangesAt w g l)) (hlo : 0 ≤ low) (hlo2 : low < T) (hs : 0 ≤ shift) (hs2 : shift ≤ 63) (hf : 0 ≤ left) (hf2 : left ≤ 9) (hb : 0 ≤ bits) (hb2 : bits ≤ 63) (hT : (2 : Int) ^ shift.toNat = T) (hT2 : T ≤ 9223372036854775808) (hB : (2 : Int) ^ bits.toNat = B) (hB1 : 1 ≤ B) (hB2 : B ≤ 9223372036854775808) (hRR : (2 : Int) ^ (7 * left).toNat = R) (hR1 : 1 ≤ R) (hR2 : R ≤ 9223372036854775808) (hlt : bits ≤ 7 * left + shift) :
    Calls Tryd.prog 146 #[.slice (some ⟨g, 0, none⟩) l.length cap, .int .u64 low, .int .i64 shift, .int .i64 left, .int .i64 bits] w fun e w' => e = .returned (.bool (fitsB T (B - 1) low l)) ∧ Below w.heap.size w w' := by
  go_enter Tryd.func146, Tryd.ntmps146
  go_wp2
  go_step3
  go_wp2
  go_step3
  go_wp2
  go_loopw [42] (fun i wr => ∃ k : Nat, k ≤ l.length ∧ i = .int .i64 k ∧ (l.take k).any (fitOne T (B - 1) low) = false ∧ Below w.heap.size w wr) (fun i wr => l.length - (intOf i).toNat)
  case atStart => exact ⟨0, Nat.zero_le _, rfl, by simp, Below.refl _ _⟩
  case round =>
    obtain ⟨k, hk, rfl, hany, hbel⟩ := hrel
    by_cases hltk : k < l.length
    · obtain ⟨e1, e2, e3, e4, e5, e6⟩ := hR.out k hltk
      have hst := hbel.size
      have f1 := (hbel.cell (p := ⟨g, k * 2, none⟩) hg).trans e1
      have f2 := (hbel.cell (p := ⟨g, k * 2 + 1, none⟩) hg).trans e2
      have hO : ∀ b, fitOne T (B - 1) low (l[k].1, l[k].2) = b → fitOne T (B - 1) low l[k] = b := fun b h => h
      generalize hl1 : l[k].1 = lo at *
      generalize hl2 : l[k].2 = hi at *
      clear e1 e2
      have hgr : g < wr.heap.size := by omega
      have HA := hid hany
      have HO := hid hO
      have HB := hid hbel
      have HG := hid (one_gt (T := T) (M := B - 1) (low := low) (lo := lo) (hi := hi) (by omega) (by omega) (by omega) (by omega) (by omega))
      have HE := hid (one_le (T := T) (M := B - 1) (low := low) (lo := lo) (hi := hi))
      have HN := hid (one_no (T := T) (M := B - 1) (low := low) (lo := lo) (hi := hi))
      clear hany hl1 hl2 hbel hO
      go_wp2
      all_goals first
        | (go_roundw
           case rel =>
             refine ⟨k + 1, by omega, by go_num, ?_, (by repeat (first | exact Below.refl _ _ | assumption | refine Below.alloc ?_ (by first | exact Nat.le_refl _ | (simp; done) | (simp; omega) | omega) _ | refine Below.drew ?_ | refine Below.setCell ?_ (by first | exact Nat.le_refl _ | (simp; done) | (simp; omega) | omega) _ | refine below_call ?_ (by assumption) (by first | exact Nat.le_refl _ | (simp; done) | (simp; omega) | omega)))⟩
             rw [any_take _ _ _ hltk, HA.out, Bool.false_or]
             refine HO.out _ ?_
             first
               | exact HN.out (by omega)
               | (refine Bool.eq_false_iff.mpr (fun q => ?_)
                  first
                    | (have z := (HG.out (by omega) (by omega) (by omega)).mpr q; unfold wrapV at z; omega)
                    | (have z := (HE.out (by omega) (by omega) (by omega)).mpr q; omega))
           case measure => simp [intOf]; omega)
        | (try rw [Exit.noGoto_ret]
           go_ret
           refine ⟨ret_bool (any_of_mem _ l k hltk (HO.out _ ?_)).symm, (by repeat (first | exact Below.refl _ _ | assumption | refine Below.alloc ?_ (by first | exact Nat.le_refl _ | (simp; done) | (simp; omega) | omega) _ | refine Below.drew ?_ | refine Below.setCell ?_ (by first | exact Nat.le_refl _ | (simp; done) | (simp; omega) | omega) _ | refine below_call ?_ (by assumption) (by first | exact Nat.le_refl _ | (simp; done) | (simp; omega) | omega)))⟩
           first
             | (refine (HG.out (by omega) (by omega) (by omega)).mp ?_; unfold wrapV; omega)
             | (refine (HE.out (by omega) (by omega) (by omega)).mp ?_; omega))
    · have hkk : k = l.length := by omega
      have HA := hid hany
      clear hany
      have HK := hid hkk
      clear hkk
      go_wp2
      rw [Exit.noGoto_ret]
      go_ret
      exact ⟨ret_bool (by have h := HA.out; rw [HK.out, List.take_length] at h; exact h.symm), hbel⟩
set_option maxHeartbeats 2000000 in
theorem fits_rest (g : Nat) (cap : Nat) (l : List (Int × Int)) (low shift left bits T B R : Int) (w : World) (hl : l.length ≤ 4611686018427387904) (hg : g < w.heap.size) (hR : Hid (RangesAt w g l)) (hlo : 0 ≤ low) (hlo2 : low < T) (hs : 0 ≤ shift) (hs2 : shift ≤ 63) (hf : 0 ≤ left) (hf2 : left ≤ 9) (hb : 0 ≤ bits) (hb2 : bits ≤ 63) (hT : (2 : Int) ^ shift.toNat = T) (hT2 : T ≤ 9223372036854775808) (hB : (2 : Int) ^ bits.toNat = B) (hB1 : 1 ≤ B) (hB2 : B ≤ 9223372036854775808) (hRR : (2 : Int) ^ (7 * left).toNat = R) (hR1 : 1 ≤ R) (hR2 : R ≤ 9223372036854775808) (P : Int) (hPe : (R - 1) * T = P) (hP0 : 0 ≤ P) (hP1 : low + P ≤ B - 2) (hlt : 7 * left + shift < bits) :
    Calls Tryd.prog 146 #[.slice (some ⟨g, 0, none⟩) l.length cap, .int .u64 low, .int .i64 shift, .int .i64 left, .int .i64 bits] w fun e w' => e = .returned (.bool (fitsB T (low + P) low l)) ∧ Below w.heap.size w w' := by
  go_enter Tryd.func146, Tryd.ntmps146
  go_wp2
  go_step3
  go_wp2
  go_step3
  go_wp2
  go_loopw [42] (fun i wr => ∃ k : Nat, k ≤ l.length ∧ i = .int .i64 k ∧ (l.take k).any (fitOne T (low + P) low) = false ∧ Below w.heap.size w wr) (fun i wr => l.length - (intOf i).toNat)
  case atStart => exact ⟨0, Nat.zero_le _, rfl, by simp, Below.refl _ _⟩
  case round =>
    obtain ⟨k, hk, rfl, hany, hbel⟩ := hrel
    by_cases hltk : k < l.length
    · obtain ⟨e1, e2, e3, e4, e5, e6⟩ := hR.out k hltk
      have hst := hbel.size
      have f1 := (hbel.cell (p := ⟨g, k * 2, none⟩) hg).trans e1
      have f2 := (hbel.cell (p := ⟨g, k * 2 + 1, none⟩) hg).trans e2
      have hO : ∀ b, fitOne T (low + P) low (l[k].1, l[k].2) = b → fitOne T (low + P) low l[k] = b := fun b h => h
      generalize hl1 : l[k].1 = lo at *
      generalize hl2 : l[k].2 = hi at *
      clear e1 e2
      have hgr : g < wr.heap.size := by omega
      have HA := hid hany
      have HO := hid hO
      have HB := hid hbel
      have HG := hid (one_gt (T := T) (M := low + P) (low := low) (lo := lo) (hi := hi) (by omega) (by omega) (by omega) (by omega) (by omega))
      have HE := hid (one_le (T := T) (M := low + P) (low := low) (lo := lo) (hi := hi))
      have HN := hid (one_no (T := T) (M := low + P) (low := low) (lo := lo) (hi := hi))
      clear hany hl1 hl2 hbel hO
      go_wp2
      all_goals first
        | (go_roundw
           case rel =>
             refine ⟨k + 1, by omega, by go_num, ?_, (by repeat (first | exact Below.refl _ _ | assumption | refine Below.alloc ?_ (by first | exact Nat.le_refl _ | (simp; done) | (simp; omega) | omega) _ | refine Below.drew ?_ | refine Below.setCell ?_ (by first | exact Nat.le_refl _ | (simp; done) | (simp; omega) | omega) _ | refine below_call ?_ (by assumption) (by first | exact Nat.le_refl _ | (simp; done) | (simp; omega) | omega)))⟩
             rw [any_take _ _ _ hltk, HA.out, Bool.false_or]
             refine HO.out _ ?_
             first
               | exact HN.out (by omega)
               | (refine Bool.eq_false_iff.mpr (fun q => ?_)
                  first
                    | (have z := (HG.out (by omega) (by omega) (by omega)).mpr q; unfold wrapV at z; omega)
                    | (have z := (HE.out (by omega) (by omega) (by omega)).mpr q; omega))
           case measure => simp [intOf]; omega)
        | (try rw [Exit.noGoto_ret]
           go_ret
           refine ⟨ret_bool (any_of_mem _ l k hltk (HO.out _ ?_)).symm, (by repeat (first | exact Below.refl _ _ | assumption | refine Below.alloc ?_ (by first | exact Nat.le_refl _ | (simp; done) | (simp; omega) | omega) _ | refine Below.drew ?_ | refine Below.setCell ?_ (by first | exact Nat.le_refl _ | (simp; done) | (simp; omega) | omega) _ | refine below_call ?_ (by assumption) (by first | exact Nat.le_refl _ | (simp; done) | (simp; omega) | omega)))⟩
           first
             | (refine (HG.out (by omega) (by omega) (by omega)).mp ?_; unfold wrapV; omega)
             | (refine (HE.out (by omega) (by omega) (by omega)).mp ?_; omega))
    · have hkk : k = l.length := by omega
      have HA := hid hany
      clear hany
      have HK := hid hkk
      clear hkk
      go_wp2
      rw [Exit.noGoto_ret]
      go_ret
      exact ⟨ret_bool (by have h := HA.out; rw [HK.out, List.take_length] at h; exact h.symm), hbel⟩

def mostS (T B R low shift left bits : Int) : Int := if 7 * left + shift < bits then low + (R - 1) * T else B - 1
def fitsI (low shift left bits : Int) (l : List (Int × Int)) : Bool := fitsB (2 ^ shift.toNat) (mostS (2 ^ shift.toNat) (2 ^ bits.toNat) (2 ^ (7 * left).toNat) low shift left bits) low l

theorem pow_bd {n : Int} (h0 : 0 ≤ n) (h : n ≤ 63) : 1 ≤ (2 : Int) ^ n.toNat ∧ (2 : Int) ^ n.toNat ≤ 9223372036854775808 := by
  obtain ⟨k, rfl⟩ : ∃ k : Nat, n = k := ⟨n.toNat, by omega⟩
  have a : (2 : Nat) ^ k ≤ 2 ^ 63 := Nat.pow_le_pow_right (by decide) (by omega)
  have b : 0 < (2 : Nat) ^ k := Nat.pow_pos (by decide)
  have e : ((2 : Int) ^ (k : Int).toNat) = ((2 ^ k : Nat) : Int) := by simp
  rw [e]
  omega

theorem pow_mul_le {a b c : Int} (ha : 0 ≤ a) (hb : 0 ≤ b) (h : a + b < c) : (2 : Int) ^ a.toNat * 2 ^ b.toNat * 2 ≤ 2 ^ c.toNat := by
  obtain ⟨x, rfl⟩ : ∃ k : Nat, a = k := ⟨a.toNat, by omega⟩
  obtain ⟨y, rfl⟩ : ∃ k : Nat, b = k := ⟨b.toNat, by omega⟩
  obtain ⟨z, rfl⟩ : ∃ k : Nat, c = k := ⟨c.toNat, by omega⟩
  have h1 : (2 : Nat) ^ (x + y + 1) ≤ 2 ^ z := Nat.pow_le_pow_right (by decide) (by omega)
  have e : (2 : Int) ^ (x : Int).toNat * 2 ^ (y : Int).toNat * 2 = ((2 ^ (x + y + 1) : Nat) : Int) := by
    simp [Int.pow_add, Int.pow_succ]
  rw [e]
  have e2 : (2 : Int) ^ (z : Int).toNat = ((2 ^ z : Nat) : Int) := by simp
  rw [e2]
  omega

theorem fits_any (g : Nat) (cap : Nat) (l : List (Int × Int)) (low shift left bits : Int) (w : World) (hl : l.length ≤ 4611686018427387904) (hg : g < w.heap.size) (hR : Hid (RangesAt w g l)) (hlo : 0 ≤ low) (hlo2 : low < 2 ^ shift.toNat) (hs : 0 ≤ shift) (hs2 : shift ≤ 63) (hf : 0 ≤ left) (hf2 : left ≤ 9) (hb : 0 ≤ bits) (hb2 : bits ≤ 63) :
    Calls Tryd.prog 146 #[.slice (some ⟨g, 0, none⟩) l.length cap, .int .u64 low, .int .i64 shift, .int .i64 left, .int .i64 bits] w fun e w' => e = .returned (.bool (fitsI low shift left bits l)) ∧ Below w.heap.size w w' := by
  obtain ⟨t1, t2⟩ := pow_bd hs hs2
  obtain ⟨b1, b2⟩ := pow_bd hb hb2
  obtain ⟨r1, r2⟩ := pow_bd (n := 7 * left) (by omega) (by omega)
  by_cases h : 7 * left + shift < bits
  · have h1 := pow_mul_le (a := 7 * left) (b := shift) (c := bits) (by omega) (by omega) h
    have e : fitsI low shift left bits l = fitsB (2 ^ shift.toNat) (low + (2 ^ (7 * left).toNat - 1) * 2 ^ shift.toNat) low l := by unfold fitsI mostS; rw [if_pos h]
    rw [e]
    have h2 : ((2 : Int) ^ (7 * left).toNat - 1) * 2 ^ shift.toNat = 2 ^ (7 * left).toNat * 2 ^ shift.toNat - 2 ^ shift.toNat := by rw [Int.sub_mul, Int.one_mul]
    have h3 : (0 : Int) ≤ (2 ^ (7 * left).toNat - 1) * 2 ^ shift.toNat := Int.mul_nonneg (by omega) (by omega)
    exact fits_rest g cap l low shift left bits _ _ _ w hl hg hR hlo hlo2 hs hs2 hf hf2 hb hb2 rfl t2 rfl b1 b2 rfl r1 r2 _ rfl h3 (by rw [h2] at h3 ⊢; omega) h
  · have e : fitsI low shift left bits l = fitsB (2 ^ shift.toNat) (2 ^ bits.toNat - 1) low l := by unfold fitsI mostS; rw [if_neg h]
    rw [e]
    exact fits_low g cap l low shift left bits _ _ _ w hl hg hR hlo hlo2 hs hs2 hf hf2 hb hb2 rfl t2 rfl b1 b2 rfl r1 r2 (by omega)

/-- no range at all -/
theorem fits_nil (cap : Nat) (A : Option Addr) (low shift left bits : Int) (w : World) (hlo : 0 ≤ low) (hlo2 : low < 2 ^ shift.toNat) (hs : 0 ≤ shift) (hs2 : shift ≤ 63) (hf : 0 ≤ left) (hf2 : left ≤ 9) (hb : 0 ≤ bits) (hb2 : bits ≤ 63) :
    Calls Tryd.prog 146 #[.slice A 0 cap, .int .u64 low, .int .i64 shift, .int .i64 left, .int .i64 bits] w fun e w' => e = .returned (.bool false) ∧ Below w.heap.size w w' := by
  go_enter Tryd.func146, Tryd.ntmps146
  go_wp2
  go_step3
  go_wp2
  all_goals
    go_step3
    go_wp2
    go_loopw [42] (fun i wr => i = .int .i64 0 ∧ Below w.heap.size w wr) (fun i wr => 0)
    case atStart => exact ⟨rfl, Below.refl _ _⟩
    case round =>
      obtain ⟨rfl, hbel⟩ := hrel
      go_wp2
      rw [Exit.noGoto_ret]
      go_ret
      exact ⟨rfl, hbel⟩

end Go.Proofs.YtiohiiekaofkbaaDoor
