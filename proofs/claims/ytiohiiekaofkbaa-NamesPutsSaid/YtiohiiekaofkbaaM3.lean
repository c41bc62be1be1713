/- Are names the same: names.Same, slices.EqualFunc of locals. -/
import Derived.Test.YtiohiiekaofkbaaZM
namespace Go.Proofs.Ytiohiiekaofkbaa
set_option linter.unusedVariables false
set_option linter.unusedSimpArgs false
open Go.RowKit Go.Proofs.Ytiohiiekaofkbaa.PNamesPuts Go.Proofs.YtiohiiekaofkbaaW.PrintWords

theorem cell_lt' {w : World} {p : Addr} {v : Value} (h : w.cell? p = some v) : p.block < w.heap.size := World.block_lt_of_cell? w p h

set_option maxHeartbeats 4000000 in
theorem equalLocal_walk (A : Option Addr) (c : Nat) (l : List S46) (B : Option Addr) (d : Nat) (o : List S46) (w : World) (hA : Kd.C k46 w A l.length l) (hc : l.length ≤ c) (hB : Kd.C k46 w B o.length o) (hd : o.length ≤ d) (hm : l.length ≤ 1000000000) (hs : ∀ i : Nat, i < l.length → (rd_T46 l i).f1.length ≤ 1000000000) :
    Calls Try.prog 26 #[.slice A l.length c, .slice B o.length d, .func (.func 27) #[] #[]] w fun e w' => e = .returned (.bool (lEq l o)) ∧ Below w.heap.size w w' := by
  have hu := Try.underlying46
  have HA := hid hA
  have HB := hid hB
  have HS := hid hs
  have HCD := hid (And.intro hc hd)
  clear hA hB hs hc hd
  by_cases hn : l.length = o.length
  · rw [← hn] at HB HCD ⊢
    have HN := hid hn
    have hE : lEq l o = allB (lEqAt l o) l.length := by rw [lEq, decide_eq_true hn, Bool.true_and]
    rw [hE]
    clear hn hE
    go_enter Try.func26, Try.ntmps26
    go_wp2
    go_loopw [17] (fun v17 wr => ∃ i : Nat, v17 = .int .i64 i ∧ i ≤ l.length ∧ Hid (allB (lEqAt l o) i = true) ∧ w.heap.size ≤ wr.heap.size ∧ Hid (Below w.heap.size w wr)) (fun v17 _ => l.length - (intOf v17).toNat)
    case atStart => exact ⟨0, by go_num, by omega, hid rfl, Nat.le_refl _, Below.refl _ _⟩
    case round =>
      obtain ⟨i, rfl, hi1, HI, hsz, HW⟩ := hrel
      by_cases hlt : i < l.length
      · have hca := Kd.C_below HA.out HW.out
        have hcb := Kd.C_below HB.out HW.out
        obtain ⟨ad, A1, c1, rfl, e1, e2, l1, g1⟩ := at_T46 hca (i : Int) (by omega) (by omega)
        obtain ⟨bd, A2, c2, rfl, e3, e4, l2, g2⟩ := at_T46 hcb (i : Int) (by omega) (by omega)
        rw [Int.toNat_natCast] at e1 e2 e3 e4
        clear hca hcb
        have HR := hid (fun W (h : Below wr.heap.size wr W) => lsame_walk (rd_T46 l i).f0 A1 c1 (rd_T46 l i).f1 (rd_T46 o i).f0 A2 c2 (rd_T46 o i).f1 W (Kd.C_below g1 h) l1 (Kd.C_below g2 h) l2 (HS.out i hlt))
        clear g1 g2
        have q1 := cell_lt' e1
        have q3 := cell_lt' e3
        rcases hv : lEqAt l o i with _ | _
        · have HV := hid hv
          have hv2 : (((rd_T46 l i).f0 == (rd_T46 o i).f0) && nEq (rd_T46 l i).f1 (rd_T46 o i).f1) = false := hv
          rw [hv2] at HR
          clear hv hv2
          go_wp2_with (first | (go_at_call 27; refine (HR.out _ (by repeat (first | exact Below.refl _ _ | assumption | refine Below.alloc ?_ (by first | exact Nat.le_refl _ | (simp; done) | (simp; omega) | omega) _ | refine Below.drew ?_ | refine Below.setCell ?_ (by first | exact Nat.le_refl _ | (simp; done) | (simp; omega) | omega) _ | refine below_call ?_ (by assumption) (by first | exact Nat.le_refl _ | (simp; done) | (simp; omega) | omega)))).mono ?_; rintro e w' ⟨rfl, hb1⟩; (first | have hq1 := hz1 | have hq1 := True.intro); (first | have hq0 := hz0 | have hq0 := True.intro); obtain ⟨hcc, hff⟩ := bcell hb1; have hz1 := hb1.size; (try simp at hz1); (try have hy1 := Nat.lt_of_lt_of_le hq1 hz1); (try have hy0 := Nat.lt_of_lt_of_le hq0 hz1); (try replace hz1 := Nat.lt_of_succ_le hz1); (try have hz0 := Nat.lt_of_succ_lt hz1)))
          go_ret
          exact ⟨ret_bool (allB_not hlt HV.out).symm, HW.out.trans (((by repeat (first | exact Below.refl _ _ | assumption | refine Below.alloc ?_ (by first | exact Nat.le_refl _ | (simp; done) | (simp; omega) | omega) _ | refine Below.drew ?_ | refine Below.setCell ?_ (by first | exact Nat.le_refl _ | (simp; done) | (simp; omega) | omega) _ | refine below_call ?_ (by assumption) (by first | exact Nat.le_refl _ | (simp; done) | (simp; omega) | omega))) : Below wr.heap.size wr _).mono hsz)⟩
        · have HV := hid hv
          have hv2 : (((rd_T46 l i).f0 == (rd_T46 o i).f0) && nEq (rd_T46 l i).f1 (rd_T46 o i).f1) = true := hv
          rw [hv2] at HR
          clear hv hv2
          go_wp2_with (first | (go_at_call 27; refine (HR.out _ (by repeat (first | exact Below.refl _ _ | assumption | refine Below.alloc ?_ (by first | exact Nat.le_refl _ | (simp; done) | (simp; omega) | omega) _ | refine Below.drew ?_ | refine Below.setCell ?_ (by first | exact Nat.le_refl _ | (simp; done) | (simp; omega) | omega) _ | refine below_call ?_ (by assumption) (by first | exact Nat.le_refl _ | (simp; done) | (simp; omega) | omega)))).mono ?_; rintro e w' ⟨rfl, hb1⟩; (first | have hq1 := hz1 | have hq1 := True.intro); (first | have hq0 := hz0 | have hq0 := True.intro); obtain ⟨hcc, hff⟩ := bcell hb1; have hz1 := hb1.size; (try simp at hz1); (try have hy1 := Nat.lt_of_lt_of_le hq1 hz1); (try have hy0 := Nat.lt_of_lt_of_le hq0 hz1); (try replace hz1 := Nat.lt_of_succ_le hz1); (try have hz0 := Nat.lt_of_succ_lt hz1)))
          go_roundw
          case rel => exact ⟨i + 1, by go_num, by omega, hid (by rw [allB, HI.out, HV.out]; rfl), by omega, HW.out.trans (((by repeat (first | exact Below.refl _ _ | assumption | refine Below.alloc ?_ (by first | exact Nat.le_refl _ | (simp; done) | (simp; omega) | omega) _ | refine Below.drew ?_ | refine Below.setCell ?_ (by first | exact Nat.le_refl _ | (simp; done) | (simp; omega) | omega) _ | refine below_call ?_ (by assumption) (by first | exact Nat.le_refl _ | (simp; done) | (simp; omega) | omega))) : Below wr.heap.size wr _).mono hsz)⟩
          case measure => simp [intOf]; omega
      · go_wp2
        go_ret
        refine ⟨ret_bool ?_, HW.out⟩
        rw [show l.length = i by omega]; exact HI.out.symm
  · have hn3 : ¬ (l.length : Int) = (o.length : Int) := by omega
    go_enter Try.func26, Try.ntmps26
    go_wp2
    go_ret
    exact ⟨ret_bool (by simp [lEq, hn]), Below.refl _ _⟩

/-- a module's names -/
structure Ns where
  hm : Bool
  hf : Bool
  hl : Bool
  md : ByteArray
  fs : List S62
  ls : List S46
/-- they are of no more than so many -/
def Ns.small (x : Ns) : Prop := x.md.size ≤ 1000000000 ∧ x.fs.length ≤ 1000000000 ∧ x.ls.length ≤ 1000000000 ∧ (∀ i : Nat, i < x.fs.length → (rd_T62 x.fs i).f1.size ≤ 1000000000) ∧ Short x.ls
/-- what stands behind the slices -/
def Ns.at (x : Ns) (A : Option Addr) (c : Nat) (B : Option Addr) (d : Nat) (w : World) : Prop := Kd.C k62 w A x.fs.length x.fs ∧ x.fs.length ≤ c ∧ Kd.C k46 w B x.ls.length x.ls ∧ x.ls.length ≤ d
theorem Ns.at.below {x : Ns} {A : Option Addr} {c : Nat} {B : Option Addr} {d : Nat} {w W : World} (h : x.at A c B d w) (hb : Below w.heap.size w W) : x.at A c B d W := ⟨Kd.C_below h.1 hb, h.2.1, Kd.C_below h.2.2.1 hb, h.2.2.2⟩

def sameB (x y : Ns) : Bool := (x.hm == y.hm) && (x.hf == y.hf) && (x.hl == y.hl) && (x.md.toList == y.md.toList) && nEq x.fs y.fs && lEq x.ls y.ls

set_option maxRecDepth 100000 in
set_option maxHeartbeats 4000000 in
theorem same_walk (x y : Ns) (A : Option Addr) (c : Nat) (B : Option Addr) (d : Nat) (A' : Option Addr) (c' : Nat) (B' : Option Addr) (d' : Nat) (w : World) (hx : x.at A c B d w) (hy : y.at A' c' B' d' w) (hs : x.small) :
    Calls Try.prog 9 #[.agg #[.bool x.hm, .bool x.hf, .bool x.hl, .string x.md, .slice A x.fs.length c, .slice B x.ls.length d], .agg #[.bool y.hm, .bool y.hf, .bool y.hl, .string y.md, .slice A' y.fs.length c', .slice B' y.ls.length d']] w fun e w' => e = .returned (.bool (sameB x y)) ∧ Below w.heap.size w w' := by
  have hu := Try.underlying30
  have HE := hid (fun W (h : Below w.heap.size w W) => equalName_walk A c x.fs A' c' y.fs W (hx.below h).1 hx.2.1 (hy.below h).1 hy.2.1 hs.2.1)
  have HL := hid (fun W (h : Below w.heap.size w W) => equalLocal_walk B d x.ls B' d' y.ls W (hx.below h).2.2.1 hx.2.2.2 (hy.below h).2.2.1 hy.2.2.2 hs.2.2.1 (fun i hi => (hs.2.2.2.2 i hi).1))
  clear hx hy hs
  obtain ⟨b1, b2, b3, m, f, l⟩ := x
  obtain ⟨b1', b2', b3', m', f', l'⟩ := y
  dsimp only at HE HL ⊢
  have HS : Hid (sameB ⟨b1, b2, b3, m, f, l⟩ ⟨b1', b2', b3', m', f', l'⟩ = ((b1 == b1') && (b2 == b2') && (b3 == b3') && (m.toList == m'.toList) && nEq f f' && lEq l l')) := rfl
  go_enter Try.func9, Try.ntmps9
  go_upto_region 1 with (fail)
  go_cut [5] (fun s5 wx => s5 = .bool ((b1 == b1') && (b2 == b2') && (b3 == b3')) ∧ wx = (w.alloc (.cells #[.bool b1, .bool b2, .bool b3, .string m, .slice A f.length c, .slice B l.length d] 30)).alloc (.cells #[.bool b1', .bool b2', .bool b3', .string m', .slice A' f'.length c', .slice B' l'.length d'] 30))
  case first =>
    cases b1 <;> cases b1' <;> cases b2 <;> cases b2' <;> cases b3 <;> cases b3' <;> (go_wp2; go_meet; exact ⟨rfl, rfl⟩)
  case rest =>
    obtain ⟨rfl, rfl⟩ := hcut
    have hB1 : Below w.heap.size w ((w.alloc (.cells #[.bool b1, .bool b2, .bool b3, .string m, .slice A f.length c, .slice B l.length d] 30)).alloc (.cells #[.bool b1', .bool b2', .bool b3', .string m', .slice A' f'.length c', .slice B' l'.length d'] 30)) := (by repeat (first | exact Below.refl _ _ | assumption | refine Below.alloc ?_ (by first | exact Nat.le_refl _ | (simp; done) | (simp; omega) | omega) _ | refine Below.drew ?_ | refine Below.setCell ?_ (by first | exact Nat.le_refl _ | (simp; done) | (simp; omega) | omega) _ | refine below_call ?_ (by assumption) (by first | exact Nat.le_refl _ | (simp; done) | (simp; omega) | omega)))
    have HB1 := hid hB1
    clear hB1
    rcases hp : ((b1 == b1') && (b2 == b2') && (b3 == b3')) with _ | _
    · rw [hp, Bool.false_and, Bool.false_and, Bool.false_and] at HS
      clear hp
      go_wp2
      go_ret
      exact ⟨ret_bool HS.out.symm, HB1.out⟩
    · rw [hp, Bool.true_and] at HS
      clear hp
      rcases hm : (m.toList == m'.toList) with _ | _
      · rw [hm, Bool.false_and, Bool.false_and] at HS
        go_wp2
        go_ret
        exact ⟨ret_bool HS.out.symm, HB1.out⟩
      · rw [hm, Bool.true_and] at HS
        rcases hn : nEq f f' with _ | _
        · rw [hn, Bool.false_and] at HS
          rw [hn] at HE
          clear hn
          go_wp2_with (first | (go_at_call 25; refine (HE.out _ HB1.out).mono ?_; rintro e w' ⟨rfl, hb1⟩))
          go_ret
          exact ⟨ret_bool HS.out.symm, HB1.out.trans (hb1.mono HB1.out.size)⟩
        · rw [hn, Bool.true_and] at HS
          rw [hn] at HE
          clear hn
          go_wp2_with (first | (go_at_call 25; refine (HE.out _ HB1.out).mono ?_; rintro e w' ⟨rfl, hb1⟩; have HB2 := hid (HB1.out.trans (hb1.mono HB1.out.size)); (first | have hq1 := hz1 | have hq1 := True.intro); (first | have hq0 := hz0 | have hq0 := True.intro); obtain ⟨hcc, hff⟩ := bcell hb1; have hz1 := hb1.size; (try simp at hz1); (try have hy1 := Nat.lt_of_lt_of_le hq1 hz1); (try have hy0 := Nat.lt_of_lt_of_le hq0 hz1); (try replace hz1 := Nat.lt_of_succ_le hz1); (try have hz0 := Nat.lt_of_succ_lt hz1)) | (go_at_call 26; refine (HL.out _ HB2.out).mono ?_; rintro e w' ⟨rfl, hb2⟩))
          go_ret
          exact ⟨ret_bool HS.out.symm, HB2.out.trans (hb2.mono HB2.out.size)⟩
end Go.Proofs.Ytiohiiekaofkbaa
