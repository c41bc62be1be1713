/- Some texts of this seat in one. -/
import Derived.Test.YtiohiiekaofkbaaPNamesPutsx0
import Derived.Test.YtiohiiekaofkbaaB0
import Derived.Test.YtiohiiekaofkbaaZU
import Derived.Test.YtiohiiekaofkbaaPNamesPutsx11
/- Do the indexes of a list of names, of locals rise: names.rises; what is true of all: slices.ContainsFunc. -/
namespace Go.Proofs.Ytiohiiekaofkbaa
set_option linter.unusedVariables false
set_option linter.unusedSimpArgs false
open Go.RowKit Go.Proofs.Ytiohiiekaofkbaa.PNamesPuts Go.Proofs.YtiohiiekaofkbaaW.PrintWords

/-- is it so below n? -/
def allB (p : Nat → Bool) : Nat → Bool
  | 0 => true
  | n + 1 => allB p n && p n
theorem allB_iff {p : Nat → Bool} {n : Nat} : allB p n = true ↔ ∀ i, i < n → p i = true := by
  induction n with
  | zero => simp [allB]
  | succ n ih =>
    simp only [allB, Bool.and_eq_true, ih]
    constructor
    · rintro ⟨h1, h2⟩ i hi
      by_cases e : i = n
      · exact e ▸ h2
      · exact h1 i (by omega)
    · exact fun h => ⟨fun i hi => h i (by omega), h n (by omega)⟩
theorem allB_not {p : Nat → Bool} {n i : Nat} (hi : i < n) (h : p i = false) : allB p n = false := by
  rcases hb : allB p n with _ | _
  · rfl
  · rw [allB_iff.1 hb i hi] at h; cases h
theorem allB_congr {p q : Nat → Bool} {n : Nat} (h : ∀ i, i < n → p i = q i) : allB p n = allB q n := by
  rw [Bool.eq_iff_iff, allB_iff, allB_iff]
  exact ⟨fun k i hi => by rw [← h i hi]; exact k i hi, fun k i hi => by rw [h i hi]; exact k i hi⟩

/-- may the index at i stand behind the one ahead of it? -/
def upB (f : Nat → Int) (i : Nat) : Bool := decide (i = 0) || decide (f (i - 1) < f i)
def nIdx (l : List S62) (i : Nat) : Int := (rd_T62 l i).f0
def lIdx (l : List S46) (i : Nat) : Int := (rd_T46 l i).f0

theorem nIdx_up (l : List S62) (j : Nat) : upB (nIdx l) (j + 1) = decide ((rd_T62 l (j : Int)).f0 < (rd_T62 l ((j : Int) + 1)).f0) := by unfold upB; rw [show decide (j + 1 = 0) = false from by simp, Bool.false_or]; rfl
theorem lIdx_up (l : List S46) (j : Nat) : upB (lIdx l) (j + 1) = decide ((rd_T46 l (j : Int)).f0 < (rd_T46 l ((j : Int) + 1)).f0) := by unfold upB; rw [show decide (j + 1 = 0) = false from by simp, Bool.false_or]; rfl

set_option maxHeartbeats 1000000 in
theorem ofName_walk (a : Int) (s : ByteArray) (w : World) : Calls Try.prog 35 #[.agg #[.int .u32 a, .string s]] w fun e w' => e = .returned (.int .u32 a) ∧ Below w.heap.size w w' := by
  have hu := Try.underlying62
  go_enter Try.func35, Try.ntmps35
  go_wp2
  go_ret
  exact ⟨rfl, (by repeat (first | exact Below.refl _ _ | assumption | refine Below.alloc ?_ (by first | exact Nat.le_refl _ | (simp; done) | (simp; omega) | omega) _ | refine Below.drew ?_ | refine Below.setCell ?_ (by first | exact Nat.le_refl _ | (simp; done) | (simp; omega) | omega) _ | refine below_call ?_ (by assumption) (by first | exact Nat.le_refl _ | (simp; done) | (simp; omega) | omega)))⟩
set_option maxHeartbeats 1000000 in
theorem ofLocal_walk (a : Int) (v : Value) (w : World) : Calls Try.prog 20 #[.agg #[.int .u32 a, v]] w fun e w' => e = .returned (.int .u32 a) ∧ Below w.heap.size w w' := by
  have hu := Try.underlying46
  go_enter Try.func20, Try.ntmps20
  go_wp2
  go_ret
  exact ⟨rfl, (by repeat (first | exact Below.refl _ _ | assumption | refine Below.alloc ?_ (by first | exact Nat.le_refl _ | (simp; done) | (simp; omega) | omega) _ | refine Below.drew ?_ | refine Below.setCell ?_ (by first | exact Nat.le_refl _ | (simp; done) | (simp; omega) | omega) _ | refine below_call ?_ (by assumption) (by first | exact Nat.le_refl _ | (simp; done) | (simp; omega) | omega)))⟩

theorem keep4 {p1 p2 p3 p4 : Addr} {a b c d : Value} {w W W' : World} {B : Nat} (h : W.cell? p1 = some a ∧ W.cell? p2 = some b ∧ W.cell? p3 = some c ∧ W.cell? p4 = some d ∧ Below B w W ∧ B ≤ W.heap.size)
    (hb : Below W.heap.size W W') : W'.cell? p1 = some a ∧ W'.cell? p2 = some b ∧ W'.cell? p3 = some c ∧ W'.cell? p4 = some d ∧ Below B w W' ∧ B ≤ W'.heap.size := by
  obtain ⟨h1, h2, h3, h4, h5, h6⟩ := h
  exact ⟨pw_cell_below hb h1, pw_cell_below hb h2, pw_cell_below hb h3, pw_cell_below hb h4, h5.trans (hb.mono h6), Nat.le_trans h6 hb.size⟩

set_option maxHeartbeats 4000000 in
theorem risesName_walk (A : Option Addr) (c : Nat) (l : List S62) (w : World) (hC : Kd.C k62 w A l.length l) (hlen : l.length ≤ 1000000000) :
    Calls Try.prog 34 #[.slice A l.length c, .func (.func 35) #[] #[]] w fun e w' => e = .returned (.bool (allB (upB (nIdx l)) l.length)) ∧ Below w.heap.size w w' := by
  have hu := Try.underlying62
  have HC := hid hC
  clear hC
  go_enter Try.func34, Try.ntmps34
  go_wp2
  go_loopw [5] (fun v5 wr => ∃ i : Nat, v5 = .int .i64 i ∧ 1 ≤ i ∧ i ≤ l.length + 1 ∧ Hid (allB (upB (nIdx l)) i = true) ∧ w.heap.size ≤ wr.heap.size ∧ Hid (Below w.heap.size w wr)) (fun v5 _ => l.length + 1 - (intOf v5).toNat)
  case atStart => exact ⟨1, by go_num, by omega, by omega, hid (by simp [allB, upB]), Nat.le_refl _, Below.refl _ _⟩
  case round =>
    obtain ⟨i, rfl, hi0, hi1, HA, hsz, HB⟩ := hrel
    by_cases hlt : i < l.length
    · obtain ⟨j, rfl⟩ : ∃ j, i = j + 1 := ⟨i - 1, by omega⟩
      have hcr := Kd.C_below HC.out HB.out
      obtain ⟨ad, rfl, e1, e2⟩ := at_T62 hcr ((j + 1 : Nat) : Int) (by omega) (by omega)
      obtain ⟨ad', he, e3, e4⟩ := at_T62 hcr (j : Int) (by omega) (by omega)
      obtain rfl := Option.some.inj he
      rw [Int.toNat_natCast] at e1 e2 e3 e4
      clear he hcr
      have hi3 : (j : Int) + 1 < (l.length : Int) := by omega
      have hi4 : (j : Int) < (l.length : Int) := by omega
      have hi5 : (0 : Int) ≤ (j : Int) + 1 := by omega
      have hw1 : IntKind.i64.wrap ((j : Int) + 1 - 1) = (j : Int) := by rw [IntKind.wrap_i64]; omega
      have hw2 : IntKind.i64.wrap (j : Int) = (j : Int) := by rw [IntKind.wrap_i64]; omega
      rw [show (((j + 1 : Nat) : Int)) = (j : Int) + 1 by omega] at e1 e2
      go_upto_region 4 with (fail)
      go_cut [25] (fun s25 wx => s25 = .bool (decide ((rd_T62 l (j + 1)).f0 ≤ (rd_T62 l j).f0)) ∧ w.heap.size ≤ wx.heap.size ∧ Hid (Below w.heap.size w wx))
      case first =>
        have S0 : wr.cell? (ad.add ((j + 1) * 2)) = some (.int .u32 (rd_T62 l (j + 1)).f0) ∧ wr.cell? ⟨(ad.add ((j + 1) * 2)).block, (ad.add ((j + 1) * 2)).off + 1, none⟩ = some (.string (rd_T62 l (j + 1)).f1) ∧ wr.cell? (ad.add (j * 2)) = some (.int .u32 (rd_T62 l j).f0) ∧ wr.cell? ⟨(ad.add (j * 2)).block, (ad.add (j * 2)).off + 1, none⟩ = some (.string (rd_T62 l j).f1) ∧ Below w.heap.size w wr ∧ w.heap.size ≤ wr.heap.size := ⟨e1, e2, e3, e4, HB.out, hsz⟩
        clear e1 e2 e3 e4
        go_region_held3 (fun w' => w'.cell? (ad.add ((j + 1) * 2)) = some (.int .u32 (rd_T62 l (j + 1)).f0) ∧ w'.cell? ⟨(ad.add ((j + 1) * 2)).block, (ad.add ((j + 1) * 2)).off + 1, none⟩ = some (.string (rd_T62 l (j + 1)).f1) ∧ w'.cell? (ad.add (j * 2)) = some (.int .u32 (rd_T62 l j).f0) ∧ w'.cell? ⟨(ad.add (j * 2)).block, (ad.add (j * 2)).off + 1, none⟩ = some (.string (rd_T62 l j).f1) ∧ Below w.heap.size w w' ∧ w.heap.size ≤ w'.heap.size)
          (first | exact S0 | exact keep4 (by assumption) (by assumption) | exact keep4 (by assumption) (below_drew (Below.refl _ _)))
          (first | (go_at_call 35; refine (ofName_walk _ _ _).mono ?_; rintro e w' ⟨rfl, hb1⟩))
        all_goals (go_wp2_with fail)
        all_goals (go_meet)
        all_goals (refine ⟨rfl, ?_, ?_⟩ <;> first | exact (‹_ ∧ _ ∧ _ ∧ _ ∧ _ ∧ _›).2.2.2.2.2 | exact hid (‹_ ∧ _ ∧ _ ∧ _ ∧ _ ∧ _›).2.2.2.2.1)
      case rest =>
        obtain ⟨rfl, hsx, HX⟩ := hcut
        by_cases hup : (rd_T62 l (j + 1)).f0 ≤ (rd_T62 l j).f0
        · have HP := hid hup
          go_wp2
          go_ret
          refine ⟨ret_bool ?_, HX.out⟩
          exact (allB_not hlt (by rw [nIdx_up]; exact decide_eq_false (by have := HP.out; omega))).symm
        · have HP := hid hup
          have hup2 : (rd_T62 l j).f0 < (rd_T62 l (j + 1)).f0 := by omega
          go_wp2
          go_roundw
          case rel => exact ⟨j + 2, by go_num, by omega, by omega, hid (by rw [allB, HA.out, Bool.true_and, nIdx_up]; exact decide_eq_true (by have := HP.out; omega)), hsx, HX⟩
          case measure => simp [intOf]; omega
    · go_wp2
      go_ret
      refine ⟨ret_bool ?_, HB.out⟩
      have e := HA.out
      rcases (show i = l.length ∨ i = l.length + 1 by omega) with rfl | rfl
      · exact e.symm
      · rw [allB, Bool.and_eq_true] at e; exact e.1.symm
set_option maxHeartbeats 4000000 in
theorem risesLocal_walk (A : Option Addr) (c : Nat) (l : List S46) (w : World) (hC : Kd.C k46 w A l.length l) (hlen : l.length ≤ 1000000000) :
    Calls Try.prog 19 #[.slice A l.length c, .func (.func 20) #[] #[]] w fun e w' => e = .returned (.bool (allB (upB (lIdx l)) l.length)) ∧ Below w.heap.size w w' := by
  have hu := Try.underlying46
  have HC := hid hC
  clear hC
  go_enter Try.func19, Try.ntmps19
  go_wp2
  go_loopw [5] (fun v5 wr => ∃ i : Nat, v5 = .int .i64 i ∧ 1 ≤ i ∧ i ≤ l.length + 1 ∧ Hid (allB (upB (lIdx l)) i = true) ∧ w.heap.size ≤ wr.heap.size ∧ Hid (Below w.heap.size w wr)) (fun v5 _ => l.length + 1 - (intOf v5).toNat)
  case atStart => exact ⟨1, by go_num, by omega, by omega, hid (by simp [allB, upB]), Nat.le_refl _, Below.refl _ _⟩
  case round =>
    obtain ⟨i, rfl, hi0, hi1, HA, hsz, HB⟩ := hrel
    by_cases hlt : i < l.length
    · obtain ⟨j, rfl⟩ : ∃ j, i = j + 1 := ⟨i - 1, by omega⟩
      have hcr := Kd.C_below HC.out HB.out
      obtain ⟨ad, A1, c1, rfl, e1, e2, l1, g1⟩ := at_T46 hcr ((j + 1 : Nat) : Int) (by omega) (by omega)
      obtain ⟨ad', A2, c2, he, e3, e4, l2, g2⟩ := at_T46 hcr (j : Int) (by omega) (by omega)
      obtain rfl := Option.some.inj he
      rw [Int.toNat_natCast] at e1 e2 e3 e4
      clear he hcr l1 g1 l2 g2
      have hi3 : (j : Int) + 1 < (l.length : Int) := by omega
      have hi4 : (j : Int) < (l.length : Int) := by omega
      have hi5 : (0 : Int) ≤ (j : Int) + 1 := by omega
      have hw1 : IntKind.i64.wrap ((j : Int) + 1 - 1) = (j : Int) := by rw [IntKind.wrap_i64]; omega
      have hw2 : IntKind.i64.wrap (j : Int) = (j : Int) := by rw [IntKind.wrap_i64]; omega
      rw [show (((j + 1 : Nat) : Int)) = (j : Int) + 1 by omega] at e1 e2
      go_upto_region 4 with (fail)
      go_cut [25] (fun s25 wx => s25 = .bool (decide ((rd_T46 l (j + 1)).f0 ≤ (rd_T46 l j).f0)) ∧ w.heap.size ≤ wx.heap.size ∧ Hid (Below w.heap.size w wx))
      case first =>
        have S0 : wr.cell? (ad.add ((j + 1) * 2)) = some (.int .u32 (rd_T46 l (j + 1)).f0) ∧ wr.cell? ⟨(ad.add ((j + 1) * 2)).block, (ad.add ((j + 1) * 2)).off + 1, none⟩ = some (.slice A1 (rd_T46 l (j + 1)).f1.length c1) ∧ wr.cell? (ad.add (j * 2)) = some (.int .u32 (rd_T46 l j).f0) ∧ wr.cell? ⟨(ad.add (j * 2)).block, (ad.add (j * 2)).off + 1, none⟩ = some (.slice A2 (rd_T46 l j).f1.length c2) ∧ Below w.heap.size w wr ∧ w.heap.size ≤ wr.heap.size := ⟨e1, e2, e3, e4, HB.out, hsz⟩
        clear e1 e2 e3 e4
        go_region_held3 (fun w' => w'.cell? (ad.add ((j + 1) * 2)) = some (.int .u32 (rd_T46 l (j + 1)).f0) ∧ w'.cell? ⟨(ad.add ((j + 1) * 2)).block, (ad.add ((j + 1) * 2)).off + 1, none⟩ = some (.slice A1 (rd_T46 l (j + 1)).f1.length c1) ∧ w'.cell? (ad.add (j * 2)) = some (.int .u32 (rd_T46 l j).f0) ∧ w'.cell? ⟨(ad.add (j * 2)).block, (ad.add (j * 2)).off + 1, none⟩ = some (.slice A2 (rd_T46 l j).f1.length c2) ∧ Below w.heap.size w w' ∧ w.heap.size ≤ w'.heap.size)
          (first | exact S0 | exact keep4 (by assumption) (by assumption) | exact keep4 (by assumption) (below_drew (Below.refl _ _)))
          (first | (go_at_call 20; refine (ofLocal_walk _ _ _).mono ?_; rintro e w' ⟨rfl, hb1⟩))
        all_goals (go_wp2_with fail)
        all_goals (go_meet)
        all_goals (refine ⟨rfl, ?_, ?_⟩ <;> first | exact (‹_ ∧ _ ∧ _ ∧ _ ∧ _ ∧ _›).2.2.2.2.2 | exact hid (‹_ ∧ _ ∧ _ ∧ _ ∧ _ ∧ _›).2.2.2.2.1)
      case rest =>
        obtain ⟨rfl, hsx, HX⟩ := hcut
        by_cases hup : (rd_T46 l (j + 1)).f0 ≤ (rd_T46 l j).f0
        · have HP := hid hup
          go_wp2
          go_ret
          refine ⟨ret_bool ?_, HX.out⟩
          exact (allB_not hlt (by rw [lIdx_up]; exact decide_eq_false (by have := HP.out; omega))).symm
        · have HP := hid hup
          have hup2 : (rd_T46 l j).f0 < (rd_T46 l (j + 1)).f0 := by omega
          go_wp2
          go_roundw
          case rel => exact ⟨j + 2, by go_num, by omega, by omega, hid (by rw [allB, HA.out, Bool.true_and, lIdx_up]; exact decide_eq_true (by have := HP.out; omega)), hsx, HX⟩
          case measure => simp [intOf]; omega
    · go_wp2
      go_ret
      refine ⟨ret_bool ?_, HB.out⟩
      have e := HA.out
      rcases (show i = l.length ∨ i = l.length + 1 by omega) with rfl | rfl
      · exact e.symm
      · rw [allB, Bool.and_eq_true] at e; exact e.1.symm

end Go.Proofs.Ytiohiiekaofkbaa

/- Are names, locals right: names.named, slices.ContainsFunc, slices.IndexFunc. -/
namespace Go.Proofs.Ytiohiiekaofkbaa
set_option linter.unusedVariables false
set_option linter.unusedSimpArgs false
open Go.RowKit Go.Proofs.Ytiohiiekaofkbaa.PNamesPuts Go.Proofs.YtiohiiekaofkbaaW.PrintWords

/-- are bytes a text? -/
def vld (s : ByteArray) : Bool := (need (ns s)).2 && (need (ns s)).1 == 0
theorem vld_walk (s : ByteArray) (w : World) (hs : s.size ≤ 140737488351232) : Calls Try.prog 24 #[.string s] w (fun e w' => e = .returned (.bool (vld s)) ∧ w = w') := valid_walk s w hs
def nVld (l : List S62) (i : Nat) : Bool := vld (rd_T62 l i).f1
def named (l : List S62) : Bool := allB (upB (nIdx l)) l.length && allB (nVld l) l.length
def lNamed (l : List S46) (i : Nat) : Bool := named (rd_T46 l i).f1

set_option maxHeartbeats 4000000 in
theorem named1_walk (a : Int) (s : ByteArray) (w : World) (hs : s.size ≤ 1000000000) : Calls Try.prog 37 #[.agg #[.int .u32 a, .string s]] w fun e w' => e = .returned (.bool (!(vld s))) ∧ Below w.heap.size w w' := by
  have hu := Try.underlying62
  go_enter Try.func37, Try.ntmps37
  go_wp2_with (first | (go_at_call 24; refine (vld_walk s _ (by omega)).mono ?_; rintro e w' ⟨rfl, rfl⟩))
  go_ret
  exact ⟨rfl, (by repeat (first | exact Below.refl _ _ | assumption | refine Below.alloc ?_ (by first | exact Nat.le_refl _ | (simp; done) | (simp; omega) | omega) _ | refine Below.drew ?_ | refine Below.setCell ?_ (by first | exact Nat.le_refl _ | (simp; done) | (simp; omega) | omega) _ | refine below_call ?_ (by assumption) (by first | exact Nat.le_refl _ | (simp; done) | (simp; omega) | omega)))⟩

/-- where the first one is of which it is not so, or -1 -/
def firstN (p : Nat → Bool) (n : Nat) (r : Int) : Prop := (allB p n = true ∧ r = -1) ∨ (allB p n = false ∧ 0 ≤ r)

set_option maxHeartbeats 4000000 in
theorem indexName_walk (A : Option Addr) (c : Nat) (l : List S62) (w : World) (hC : Kd.C k62 w A l.length l) (hlen : l.length ≤ 1000000000) (hs : ∀ i : Nat, i < l.length → (rd_T62 l i).f1.size ≤ 1000000000) :
    Calls Try.prog 41 #[.slice A l.length c, .func (.func 37) #[] #[]] w fun e w' => ∃ r, e = .returned (.int .i64 r) ∧ firstN (nVld l) l.length r ∧ Below w.heap.size w w' := by
  have hu := Try.underlying62
  have HC := hid hC
  have HS := hid hs
  clear hC hs
  go_enter Try.func41, Try.ntmps41
  go_wp2
  go_loopw [5, 8] (fun _ v8 wr => ∃ i : Nat, v8 = .int .i64 i ∧ i ≤ l.length ∧ Hid (allB (nVld l) i = true) ∧ w.heap.size ≤ wr.heap.size ∧ Hid (Below w.heap.size w wr)) (fun _ v8 _ => l.length - (intOf v8).toNat)
  case atStart => exact ⟨0, by go_num, by omega, hid rfl, Nat.le_refl _, Below.refl _ _⟩
  case round =>
    obtain ⟨i, rfl, hi1, HA, hsz, HB⟩ := hrel
    by_cases hlt : i < l.length
    · have hcr := Kd.C_below HC.out HB.out
      obtain ⟨ad, rfl, e1, e2⟩ := at_T62 hcr (i : Int) (by omega) (by omega)
      rw [Int.toNat_natCast] at e1 e2
      clear hcr
      have hss := HS.out i hlt
      rcases hv : nVld l i with _ | _
      · have HV := hid hv
        have hv2 : vld (rd_T62 l i).f1 = false := hv
        clear hv
        go_wp2_with (first | (go_at_call 37; refine (named1_walk _ _ _ hss).mono ?_; rw [hv2]; rintro e w' ⟨rfl, hb1⟩; (first | have hq1 := hz1 | have hq1 := True.intro); (first | have hq0 := hz0 | have hq0 := True.intro); obtain ⟨hcc, hff⟩ := bcell hb1; have hz1 := hb1.size; (try simp at hz1); (try have hy1 := Nat.lt_of_lt_of_le hq1 hz1); (try have hy0 := Nat.lt_of_lt_of_le hq0 hz1); (try replace hz1 := Nat.lt_of_succ_le hz1); (try have hz0 := Nat.lt_of_succ_lt hz1)))
        go_ret
        exact ⟨i, rfl, .inr ⟨allB_not hlt HV.out, by omega⟩, HB.out.trans (hb1.mono hsz)⟩
      · have HV := hid hv
        have hv2 : vld (rd_T62 l i).f1 = true := hv
        clear hv
        go_wp2_with (first | (go_at_call 37; refine (named1_walk _ _ _ hss).mono ?_; rw [hv2]; rintro e w' ⟨rfl, hb1⟩; (first | have hq1 := hz1 | have hq1 := True.intro); (first | have hq0 := hz0 | have hq0 := True.intro); obtain ⟨hcc, hff⟩ := bcell hb1; have hz1 := hb1.size; (try simp at hz1); (try have hy1 := Nat.lt_of_lt_of_le hq1 hz1); (try have hy0 := Nat.lt_of_lt_of_le hq0 hz1); (try replace hz1 := Nat.lt_of_succ_le hz1); (try have hz0 := Nat.lt_of_succ_lt hz1)))
        go_roundw
        case rel => exact ⟨i + 1, by go_num, by omega, hid (by rw [allB, HA.out, HV.out]; rfl), by omega, HB.out.trans (hb1.mono hsz)⟩
        case measure => simp [intOf]; omega
    · go_wp2
      go_ret
      exact ⟨-1, rfl, .inl ⟨by rw [show l.length = i by omega]; exact HA.out, rfl⟩, HB.out⟩

set_option maxHeartbeats 4000000 in
theorem containsName_walk (A : Option Addr) (c : Nat) (l : List S62) (w : World) (hC : Kd.C k62 w A l.length l) (hlen : l.length ≤ 1000000000) (hs : ∀ i : Nat, i < l.length → (rd_T62 l i).f1.size ≤ 1000000000) :
    Calls Try.prog 36 #[.slice A l.length c, .func (.func 37) #[] #[]] w fun e w' => e = .returned (.bool (!(allB (nVld l) l.length))) ∧ Below w.heap.size w w' := by
  have HI := hid (fun W (h : Kd.C k62 W A l.length l) => indexName_walk A c l W h hlen hs)
  have HC := hid hC
  clear hC hs
  go_enter Try.func36, Try.ntmps36
  go_wp2_with (first | (go_at_call 41; refine (HI.out _ HC.out).mono ?_; rintro e w' ⟨r, rfl, hr, hb1⟩; have HR := hid hr; clear hr; (first | have hq1 := hz1 | have hq1 := True.intro); (first | have hq0 := hz0 | have hq0 := True.intro); obtain ⟨hcc, hff⟩ := bcell hb1; have hz1 := hb1.size; (try simp at hz1); (try have hy1 := Nat.lt_of_lt_of_le hq1 hz1); (try have hy0 := Nat.lt_of_lt_of_le hq0 hz1); (try replace hz1 := Nat.lt_of_succ_le hz1); (try have hz0 := Nat.lt_of_succ_lt hz1)))
  go_ret
  refine ⟨ret_bool ?_, hb1⟩
  rcases HR.out with ⟨h1, h2⟩ | ⟨h1, h2⟩
  · subst h2; rw [h1]; rfl
  · rw [h1]; simp; omega

set_option maxHeartbeats 4000000 in
theorem named_walk (A : Option Addr) (c : Nat) (l : List S62) (w : World) (hC : Kd.C k62 w A l.length l) (hlen : l.length ≤ 1000000000) (hs : ∀ i : Nat, i < l.length → (rd_T62 l i).f1.size ≤ 1000000000) :
    Calls Try.prog 23 #[.slice A l.length c] w fun e w' => e = .returned (.bool (named l)) ∧ Below w.heap.size w w' := by
  have HI := hid (fun W (h : Below w.heap.size w W) => containsName_walk A c l W (Kd.C_below hC h) hlen hs)
  have HR := hid (risesName_walk A c l w hC hlen)
  unfold named
  rcases hu : allB (upB (nIdx l)) l.length with _ | _
  · rw [hu] at HR
    clear hC hs hu
    go_enter Try.func23, Try.ntmps23
    go_wp2_with (first | (go_at_call 34; refine HR.out.mono ?_; rintro e w' ⟨rfl, hb1⟩; (first | have hq1 := hz1 | have hq1 := True.intro); (first | have hq0 := hz0 | have hq0 := True.intro); obtain ⟨hcc, hff⟩ := bcell hb1; have hz1 := hb1.size; (try simp at hz1); (try have hy1 := Nat.lt_of_lt_of_le hq1 hz1); (try have hy0 := Nat.lt_of_lt_of_le hq0 hz1); (try replace hz1 := Nat.lt_of_succ_le hz1); (try have hz0 := Nat.lt_of_succ_lt hz1)))
    go_ret
    exact ⟨ret_bool rfl, hb1⟩
  · rw [hu] at HR
    clear hC hs hu
    go_enter Try.func23, Try.ntmps23
    go_wp2_with (first | (go_at_call 34; refine HR.out.mono ?_; rintro e w' ⟨rfl, hb1⟩; (first | have hq1 := hz1 | have hq1 := True.intro); (first | have hq0 := hz0 | have hq0 := True.intro); obtain ⟨hcc, hff⟩ := bcell hb1; have hz1 := hb1.size; (try simp at hz1); (try have hy1 := Nat.lt_of_lt_of_le hq1 hz1); (try have hy0 := Nat.lt_of_lt_of_le hq0 hz1); (try replace hz1 := Nat.lt_of_succ_le hz1); (try have hz0 := Nat.lt_of_succ_lt hz1)) | (go_at_call 36; refine (HI.out _ hb1).mono ?_; rintro e w' ⟨rfl, hb2⟩))
    go_ret
    exact ⟨ret_bool (by simp), hb1.trans (hb2.mono hb1.size)⟩

/-- all texts of all names are short -/
def Short (l : List S46) : Prop := ∀ i : Nat, i < l.length → (rd_T46 l i).f1.length ≤ 1000000000 ∧ ∀ j : Nat, j < (rd_T46 l i).f1.length → (rd_T62 (rd_T46 l i).f1 j).f1.size ≤ 1000000000

set_option maxHeartbeats 4000000 in
theorem right1_walk (a : Int) (A : Option Addr) (c : Nat) (l : List S62) (w : World) (hC : Kd.C k62 w A l.length l) (hlen : l.length ≤ 1000000000) (hs : ∀ i : Nat, i < l.length → (rd_T62 l i).f1.size ≤ 1000000000) : Calls Try.prog 22 #[.agg #[.int .u32 a, .slice A l.length c]] w fun e w' => e = .returned (.bool (!(named l))) ∧ Below w.heap.size w w' := by
  have hu := Try.underlying46
  have HI := hid (fun W (h : Below w.heap.size w W) => named_walk A c l W (Kd.C_below hC h) hlen hs)
  clear hC hs
  go_enter Try.func22, Try.ntmps22
  go_wp2_with (first | (go_at_call 23; refine (HI.out _ (by repeat (first | exact Below.refl _ _ | assumption | refine Below.alloc ?_ (by first | exact Nat.le_refl _ | (simp; done) | (simp; omega) | omega) _ | refine Below.drew ?_ | refine Below.setCell ?_ (by first | exact Nat.le_refl _ | (simp; done) | (simp; omega) | omega) _ | refine below_call ?_ (by assumption) (by first | exact Nat.le_refl _ | (simp; done) | (simp; omega) | omega)))).mono ?_; rintro e w' ⟨rfl, hb1⟩; (first | have hq1 := hz1 | have hq1 := True.intro); (first | have hq0 := hz0 | have hq0 := True.intro); obtain ⟨hcc, hff⟩ := bcell hb1; have hz1 := hb1.size; (try simp at hz1); (try have hy1 := Nat.lt_of_lt_of_le hq1 hz1); (try have hy0 := Nat.lt_of_lt_of_le hq0 hz1); (try replace hz1 := Nat.lt_of_succ_le hz1); (try have hz0 := Nat.lt_of_succ_lt hz1)))
  go_ret
  exact ⟨rfl, (by repeat (first | exact Below.refl _ _ | assumption | refine Below.alloc ?_ (by first | exact Nat.le_refl _ | (simp; done) | (simp; omega) | omega) _ | refine Below.drew ?_ | refine Below.setCell ?_ (by first | exact Nat.le_refl _ | (simp; done) | (simp; omega) | omega) _ | refine below_call ?_ (by assumption) (by first | exact Nat.le_refl _ | (simp; done) | (simp; omega) | omega)))⟩
end Go.Proofs.Ytiohiiekaofkbaa

/- Are locals right: slices.ContainsFunc and IndexFunc of locals; are locals the same: slices.EqualFunc. -/
namespace Go.Proofs.Ytiohiiekaofkbaa
set_option linter.unusedVariables false
set_option linter.unusedSimpArgs false
open Go.RowKit Go.Proofs.Ytiohiiekaofkbaa.PNamesPuts Go.Proofs.YtiohiiekaofkbaaW.PrintWords

set_option maxHeartbeats 4000000 in
theorem indexLocal_walk (A : Option Addr) (c : Nat) (l : List S46) (w : World) (hC : Kd.C k46 w A l.length l) (hlen : l.length ≤ 1000000000) (hs : Short l) :
    Calls Try.prog 33 #[.slice A l.length c, .func (.func 22) #[] #[]] w fun e w' => ∃ r, e = .returned (.int .i64 r) ∧ firstN (lNamed l) l.length r ∧ Below w.heap.size w w' := by
  have hu := Try.underlying46
  have HC := hid hC
  have HS := hid hs
  clear hC hs
  go_enter Try.func33, Try.ntmps33
  go_wp2
  go_loopw [5, 8] (fun _ v8 wr => ∃ i : Nat, v8 = .int .i64 i ∧ i ≤ l.length ∧ Hid (allB (lNamed l) i = true) ∧ w.heap.size ≤ wr.heap.size ∧ Hid (Below w.heap.size w wr)) (fun _ v8 _ => l.length - (intOf v8).toNat)
  case atStart => exact ⟨0, by go_num, by omega, hid rfl, Nat.le_refl _, Below.refl _ _⟩
  case round =>
    obtain ⟨i, rfl, hi1, HA, hsz, HB⟩ := hrel
    by_cases hlt : i < l.length
    · have hcr := Kd.C_below HC.out HB.out
      obtain ⟨ad, A1, c1, rfl, e1, e2, l1, g1⟩ := at_T46 hcr (i : Int) (by omega) (by omega)
      rw [Int.toNat_natCast] at e1 e2
      clear hcr
      have hR := right1_walk (rd_T46 l i).f0 A1 c1 (rd_T46 l i).f1 wr g1 (HS.out i hlt).1 (HS.out i hlt).2
      clear g1
      rcases hv : lNamed l i with _ | _
      · have HV := hid hv
        have hv2 : named (rd_T46 l i).f1 = false := hv
        rw [hv2] at hR
        have HR := hid hR
        clear hv hR hv2
        go_wp2_with (first | (go_at_call 22; refine HR.out.mono ?_; rintro e w' ⟨rfl, hb1⟩; (first | have hq1 := hz1 | have hq1 := True.intro); (first | have hq0 := hz0 | have hq0 := True.intro); obtain ⟨hcc, hff⟩ := bcell hb1; have hz1 := hb1.size; (try simp at hz1); (try have hy1 := Nat.lt_of_lt_of_le hq1 hz1); (try have hy0 := Nat.lt_of_lt_of_le hq0 hz1); (try replace hz1 := Nat.lt_of_succ_le hz1); (try have hz0 := Nat.lt_of_succ_lt hz1)))
        go_ret
        exact ⟨i, rfl, .inr ⟨allB_not hlt HV.out, by omega⟩, HB.out.trans (hb1.mono hsz)⟩
      · have HV := hid hv
        have hv2 : named (rd_T46 l i).f1 = true := hv
        rw [hv2] at hR
        have HR := hid hR
        clear hv hR hv2
        go_wp2_with (first | (go_at_call 22; refine HR.out.mono ?_; rintro e w' ⟨rfl, hb1⟩; (first | have hq1 := hz1 | have hq1 := True.intro); (first | have hq0 := hz0 | have hq0 := True.intro); obtain ⟨hcc, hff⟩ := bcell hb1; have hz1 := hb1.size; (try simp at hz1); (try have hy1 := Nat.lt_of_lt_of_le hq1 hz1); (try have hy0 := Nat.lt_of_lt_of_le hq0 hz1); (try replace hz1 := Nat.lt_of_succ_le hz1); (try have hz0 := Nat.lt_of_succ_lt hz1)))
        go_roundw
        case rel => exact ⟨i + 1, by go_num, by omega, hid (by rw [allB, HA.out, HV.out]; rfl), by omega, HB.out.trans (hb1.mono hsz)⟩
        case measure => simp [intOf]; omega
    · go_wp2
      go_ret
      exact ⟨-1, rfl, .inl ⟨by rw [show l.length = i by omega]; exact HA.out, rfl⟩, HB.out⟩

set_option maxHeartbeats 4000000 in
theorem containsLocal_walk (A : Option Addr) (c : Nat) (l : List S46) (w : World) (hC : Kd.C k46 w A l.length l) (hlen : l.length ≤ 1000000000) (hs : Short l) :
    Calls Try.prog 21 #[.slice A l.length c, .func (.func 22) #[] #[]] w fun e w' => e = .returned (.bool (!(allB (lNamed l) l.length))) ∧ Below w.heap.size w w' := by
  have HI := hid (fun W (h : Kd.C k46 W A l.length l) => indexLocal_walk A c l W h hlen hs)
  have HC := hid hC
  clear hC hs
  go_enter Try.func21, Try.ntmps21
  go_wp2_with (first | (go_at_call 33; refine (HI.out _ HC.out).mono ?_; rintro e w' ⟨r, rfl, hr, hb1⟩; have HR := hid hr; clear hr; (first | have hq1 := hz1 | have hq1 := True.intro); (first | have hq0 := hz0 | have hq0 := True.intro); obtain ⟨hcc, hff⟩ := bcell hb1; have hz1 := hb1.size; (try simp at hz1); (try have hy1 := Nat.lt_of_lt_of_le hq1 hz1); (try have hy0 := Nat.lt_of_lt_of_le hq0 hz1); (try replace hz1 := Nat.lt_of_succ_le hz1); (try have hz0 := Nat.lt_of_succ_lt hz1)))
  go_ret
  refine ⟨ret_bool ?_, hb1⟩
  rcases HR.out with ⟨h1, h2⟩ | ⟨h1, h2⟩
  · subst h2; rw [h1]; rfl
  · rw [h1]; simp; omega

/-- are lists of names the same? -/
def nEqAt (l o : List S62) (i : Nat) : Bool := ((rd_T62 l i).f0 == (rd_T62 o i).f0) && ((rd_T62 l i).f1.toList == (rd_T62 o i).f1.toList)
def nEq (l o : List S62) : Bool := decide (l.length = o.length) && allB (nEqAt l o) l.length
theorem nEq_loop (l o : List S62) (hl : l.length = o.length) (hm : l.length ≤ 1000000000) (d : Nat) : ∀ i : Nat, i + d = l.length → ∀ k, d < k → allB (nEqAt l o) i = true → names_Name_25.l0 k l o l.length i = some (allB (nEqAt l o) l.length) := by
  induction d with
  | zero =>
    intro i hi k hk hA
    obtain ⟨k, rfl⟩ : ∃ m, k = m + 1 := ⟨k - 1, by omega⟩
    simp only [names_Name_25.l0]
    rw [if_neg (by omega), ← hA, show i = l.length by omega]
  | succ d ih =>
    intro i hi k hk hA
    obtain ⟨k, rfl⟩ : ∃ m, k = m + 1 := ⟨k - 1, by omega⟩
    simp only [names_Name_25.l0]
    rw [if_pos (by omega), if_pos (by omega), if_pos (by omega), if_pos (by omega)]
    rcases hv : nEqAt l o i with _ | _
    · rw [allB_not (by omega : i < l.length) hv]
      have hv2 : (!((rd_T62 l i).f0 == (rd_T62 o i).f0) || !((rd_T62 l i).f1.toList == (rd_T62 o i).f1.toList)) = true := by
        rw [← Bool.not_and, Bool.not_eq_true']; exact hv
      rw [if_pos hv2]
    · have hv2 : ¬ (!((rd_T62 l i).f0 == (rd_T62 o i).f0) || !((rd_T62 l i).f1.toList == (rd_T62 o i).f1.toList)) = true := by
        rw [← Bool.not_and, Bool.not_eq_true', Bool.not_eq_false]; exact hv
      rw [if_neg hv2, show wrap64 ((i : Int) + 1) = ((i + 1 : Nat) : Int) by unfold wrap64; omega]
      exact ih (i + 1) (by omega) k (by omega) (by rw [allB, hA, hv]; rfl)
theorem nEq_some (l o : List S62) (hm : l.length ≤ 1000000000) : names_Name_25.f (l.length + 1) l o = some (nEq l o) := by
  unfold names_Name_25.f nEq
  by_cases h : l.length = o.length
  · rw [if_pos (by omega), decide_eq_true h, Bool.true_and]
    exact nEq_loop l o h hm l.length 0 (by omega) _ (by omega) rfl
  · rw [if_neg (by omega), decide_eq_false h, Bool.false_and]
theorem equalName_walk (A : Option Addr) (c : Nat) (l : List S62) (B : Option Addr) (d : Nat) (o : List S62) (w : World) (hA : Kd.C k62 w A l.length l) (hc : l.length ≤ c) (hB : Kd.C k62 w B o.length o) (hd : o.length ≤ d) (hm : l.length ≤ 1000000000) :
    Calls Try.prog 25 #[.slice A l.length c, .slice B o.length d] w fun e w' => e = .returned (.bool (nEq l o)) ∧ Below w.heap.size w w' :=
  (names_Name_25.calls _ A c l B d o _ w hA hc hB hd (nEq_some l o hm)).mono fun _ _ ⟨h1, h2⟩ => ⟨h1, h2.below⟩

def lEqAt (l o : List S46) (i : Nat) : Bool := ((rd_T46 l i).f0 == (rd_T46 o i).f0) && nEq (rd_T46 l i).f1 (rd_T46 o i).f1
def lEq (l o : List S46) : Bool := decide (l.length = o.length) && allB (lEqAt l o) l.length

set_option maxHeartbeats 4000000 in
theorem lsame_walk (a : Int) (A : Option Addr) (c : Nat) (l : List S62) (b : Int) (B : Option Addr) (d : Nat) (o : List S62) (w : World) (hA : Kd.C k62 w A l.length l) (hc : l.length ≤ c) (hB : Kd.C k62 w B o.length o) (hd : o.length ≤ d) (hm : l.length ≤ 1000000000) :
    Calls Try.prog 27 #[.agg #[.int .u32 a, .slice A l.length c], .agg #[.int .u32 b, .slice B o.length d]] w fun e w' => e = .returned (.bool ((a == b) && nEq l o)) ∧ Below w.heap.size w w' := by
  have hu := Try.underlying46
  have HI := hid (fun W (h : Below w.heap.size w W) => equalName_walk A c l B d o W (Kd.C_below hA h) hc (Kd.C_below hB h) hd hm)
  clear hA hB
  by_cases hab : a = b
  · subst hab
    go_enter Try.func27, Try.ntmps27
    go_wp2_with (first | (go_at_call 25; refine (HI.out _ (by repeat (first | exact Below.refl _ _ | assumption | refine Below.alloc ?_ (by first | exact Nat.le_refl _ | (simp; done) | (simp; omega) | omega) _ | refine Below.drew ?_ | refine Below.setCell ?_ (by first | exact Nat.le_refl _ | (simp; done) | (simp; omega) | omega) _ | refine below_call ?_ (by assumption) (by first | exact Nat.le_refl _ | (simp; done) | (simp; omega) | omega)))).mono ?_; rintro e w' ⟨rfl, hb1⟩; (first | have hq1 := hz1 | have hq1 := True.intro); (first | have hq0 := hz0 | have hq0 := True.intro); obtain ⟨hcc, hff⟩ := bcell hb1; have hz1 := hb1.size; (try simp at hz1); (try have hy1 := Nat.lt_of_lt_of_le hq1 hz1); (try have hy0 := Nat.lt_of_lt_of_le hq0 hz1); (try replace hz1 := Nat.lt_of_succ_le hz1); (try have hz0 := Nat.lt_of_succ_lt hz1)))
    go_ret
    exact ⟨ret_bool (by simp), (by repeat (first | exact Below.refl _ _ | assumption | refine Below.alloc ?_ (by first | exact Nat.le_refl _ | (simp; done) | (simp; omega) | omega) _ | refine Below.drew ?_ | refine Below.setCell ?_ (by first | exact Nat.le_refl _ | (simp; done) | (simp; omega) | omega) _ | refine below_call ?_ (by assumption) (by first | exact Nat.le_refl _ | (simp; done) | (simp; omega) | omega)))⟩
  · have hab2 : (a == b) = false := by simpa using hab
    go_enter Try.func27, Try.ntmps27
    go_wp2_with (first | (go_at_call 25; refine (HI.out _ (by repeat (first | exact Below.refl _ _ | assumption | refine Below.alloc ?_ (by first | exact Nat.le_refl _ | (simp; done) | (simp; omega) | omega) _ | refine Below.drew ?_ | refine Below.setCell ?_ (by first | exact Nat.le_refl _ | (simp; done) | (simp; omega) | omega) _ | refine below_call ?_ (by assumption) (by first | exact Nat.le_refl _ | (simp; done) | (simp; omega) | omega)))).mono ?_; rintro e w' ⟨rfl, hb1⟩; (first | have hq1 := hz1 | have hq1 := True.intro); (first | have hq0 := hz0 | have hq0 := True.intro); obtain ⟨hcc, hff⟩ := bcell hb1; have hz1 := hb1.size; (try simp at hz1); (try have hy1 := Nat.lt_of_lt_of_le hq1 hz1); (try have hy0 := Nat.lt_of_lt_of_le hq0 hz1); (try replace hz1 := Nat.lt_of_succ_le hz1); (try have hz0 := Nat.lt_of_succ_lt hz1)))
    go_ret
    exact ⟨ret_bool (by simp [hab]), (by repeat (first | exact Below.refl _ _ | assumption | refine Below.alloc ?_ (by first | exact Nat.le_refl _ | (simp; done) | (simp; omega) | omega) _ | refine Below.drew ?_ | refine Below.setCell ?_ (by first | exact Nat.le_refl _ | (simp; done) | (simp; omega) | omega) _ | refine below_call ?_ (by assumption) (by first | exact Nat.le_refl _ | (simp; done) | (simp; omega) | omega)))⟩
end Go.Proofs.Ytiohiiekaofkbaa
