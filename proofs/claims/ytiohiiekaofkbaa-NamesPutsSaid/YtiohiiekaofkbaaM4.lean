/- May names be: names.Right. -/
import Derived.Test.YtiohiiekaofkbaaM3
namespace Go.Proofs.Ytiohiiekaofkbaa
set_option linter.unusedVariables false
set_option linter.unusedSimpArgs false
open Go.RowKit Go.Proofs.Ytiohiiekaofkbaa.PNamesPuts Go.Proofs.YtiohiiekaofkbaaW.PrintWords

def thereB (b1 b2 b3 : Bool) (m : ByteArray) (f l : Nat) : Bool := (b1 || m.toList.isEmpty) && (b2 || decide (f = 0)) && (b3 || decide (l = 0))
def localsB (l : List S46) : Bool := allB (upB (lIdx l)) l.length && allB (lNamed l) l.length
def rightB (x : Ns) : Bool := thereB x.hm x.hf x.hl x.md x.fs.length x.ls.length && vld x.md && named x.fs && localsB x.ls

set_option maxRecDepth 100000 in
set_option maxHeartbeats 8000000 in
theorem right_walk (x : Ns) (A : Option Addr) (c : Nat) (B : Option Addr) (d : Nat) (w : World) (hx : x.at A c B d w) (hs : x.small) :
    Calls Try.prog 8 #[.agg #[.bool x.hm, .bool x.hf, .bool x.hl, .string x.md, .slice A x.fs.length c, .slice B x.ls.length d]] w fun e w' => e = .returned (.bool (rightB x)) ∧ Below w.heap.size w w' := by
  have hu := Try.underlying30
  have HN := hid (fun W (h : Below w.heap.size w W) => named_walk A c x.fs W (hx.below h).1 hs.2.1 hs.2.2.2.1)
  have HR := hid (fun W (h : Below w.heap.size w W) => risesLocal_walk B d x.ls W (hx.below h).2.2.1 hs.2.2.1)
  have HL := hid (fun W (h : Below w.heap.size w W) => containsLocal_walk B d x.ls W (hx.below h).2.2.1 hs.2.2.1 hs.2.2.2.2)
  have HV := hid (fun W => vld_walk x.md W (by have := hs.1; omega))
  have h1 := hs.2.1
  have h2 := hs.2.2.1
  clear hx hs
  obtain ⟨b1, b2, b3, m, f, l⟩ := x
  dsimp only at HN HR HL HV h1 h2 ⊢
  have HS : Hid (rightB ⟨b1, b2, b3, m, f, l⟩ = (thereB b1 b2 b3 m f.length l.length && vld m && named f && localsB l)) := rfl
  obtain ⟨nf, hnf⟩ : ∃ n, f.length = n := ⟨_, rfl⟩
  obtain ⟨nl, hnl⟩ : ∃ n, l.length = n := ⟨_, rfl⟩
  rw [hnf] at HN HS h1 ⊢
  rw [hnl] at HR HL HS h2 ⊢
  have hR2 : allB (upB (lIdx l)) nl = false → localsB l = false := fun h => by rw [localsB, hnl, h]; rfl
  have hR3 : allB (upB (lIdx l)) nl = true → localsB l = allB (lNamed l) nl := fun h => by rw [localsB, hnl, h, Bool.true_and]
  have HLo := hid hR2
  have HLo2 := hid hR3
  clear hnf hnl hR2 hR3
  go_enter Try.func8, Try.ntmps8
  go_upto_region 1 with (fail)
  go_cut [3] (fun s3 wx => s3 = .bool (thereB b1 b2 b3 m nf nl) ∧ wx = w.alloc (.cells #[.bool b1, .bool b2, .bool b3, .string m, .slice A nf c, .slice B nl d] 30))
  case first =>
    have HT : Hid (thereB b1 b2 b3 m nf nl = ((b1 || m.toList.isEmpty) && (b2 || decide (nf = 0)) && (b3 || decide (nl = 0)))) := rfl
    clear HS HN HR HL HV HLo HLo2
    rcases nf with _ | nf <;> rcases nl with _ | nl <;> cases b1 <;> cases b2 <;> cases b3 <;> (go_wp2; all_goals (go_meet; refine ⟨?_, rfl⟩; rw [HT.out]; first | (simp [*]; done) | (simp [*]; omega)))
  case rest =>
    obtain ⟨rfl, rfl⟩ := hcut
    have hB1 : Below w.heap.size w (w.alloc (.cells #[.bool b1, .bool b2, .bool b3, .string m, .slice A nf c, .slice B nl d] 30)) := (by repeat (first | exact Below.refl _ _ | assumption | refine Below.alloc ?_ (by first | exact Nat.le_refl _ | (simp; done) | (simp; omega) | omega) _ | refine Below.drew ?_ | refine Below.setCell ?_ (by first | exact Nat.le_refl _ | (simp; done) | (simp; omega) | omega) _ | refine below_call ?_ (by assumption) (by first | exact Nat.le_refl _ | (simp; done) | (simp; omega) | omega)))
    have HB1 := hid hB1
    clear hB1
    go_upto_region 2 with (fail)
    go_cut [4] (fun s4 wx => s4 = .bool (localsB l) ∧ wx.cell? ⟨w.heap.size, 3, none⟩ = some (.string m) ∧ wx.cell? ⟨w.heap.size, 4, none⟩ = some (.slice A nf c) ∧ Hid (Below w.heap.size w wx))
    case first =>
      rcases hr : allB (upB (lIdx l)) nl with _ | _
      · have hl2 := HLo.out hr
        rw [hr] at HR
        have HL2 := hid hl2
        clear hr hl2
        go_wp2_with (first | (go_at_call 19; refine (HR.out _ HB1.out).mono ?_; rintro e w' ⟨rfl, hb1⟩; (first | have hq1 := hz1 | have hq1 := True.intro); (first | have hq0 := hz0 | have hq0 := True.intro); obtain ⟨hcc, hff⟩ := bcell hb1; have hz1 := hb1.size; (try simp at hz1); (try have hy1 := Nat.lt_of_lt_of_le hq1 hz1); (try have hy0 := Nat.lt_of_lt_of_le hq0 hz1); (try replace hz1 := Nat.lt_of_succ_le hz1); (try have hz0 := Nat.lt_of_succ_lt hz1)))
        go_meet
        exact ⟨by rw [HL2.out], by rw [hcc _ _ (by simp)]; simp [World.cell?_alloc_new], by rw [hcc _ _ (by simp)]; simp [World.cell?_alloc_new], hid (HB1.out.trans (hb1.mono HB1.out.size))⟩
      · have hl2 := HLo2.out hr
        rw [hr] at HR
        have HL2 := hid hl2
        clear hr hl2
        go_wp2_with (first | (go_at_call 19; refine (HR.out _ HB1.out).mono ?_; rintro e w' ⟨rfl, hb1⟩; (first | have hq1 := hz1 | have hq1 := True.intro); (first | have hq0 := hz0 | have hq0 := True.intro); obtain ⟨hcc, hff⟩ := bcell hb1; have hz1 := hb1.size; (try simp at hz1); (try have hy1 := Nat.lt_of_lt_of_le hq1 hz1); (try have hy0 := Nat.lt_of_lt_of_le hq0 hz1); (try replace hz1 := Nat.lt_of_succ_le hz1); (try have hz0 := Nat.lt_of_succ_lt hz1); have HB2 := hid (HB1.out.trans (hb1.mono HB1.out.size))) | (go_at_call 21; refine (HL.out _ HB2.out).mono ?_; rintro e w' ⟨rfl, hb2⟩))
        go_meet
        have hz := hb1.size
        simp at hz
        obtain ⟨hcc2, _⟩ := bcell hb2
        exact ⟨by rw [HL2.out], by rw [hcc2 _ _ (by omega), hcc _ _ (by simp)]; simp [World.cell?_alloc_new], by rw [hcc2 _ _ (by omega), hcc _ _ (by simp)]; simp [World.cell?_alloc_new], hid (HB2.out.trans (hb2.mono HB2.out.size))⟩
    case rest =>
      obtain ⟨rfl, k1, k2, HB2⟩ := hcut
      have hz := cell_lt k1
      rcases ht : thereB b1 b2 b3 m nf nl with _ | _
      · rw [ht, Bool.false_and, Bool.false_and, Bool.false_and] at HS
        clear ht
        go_wp2
        go_ret
        exact ⟨ret_bool HS.out.symm, HB2.out⟩
      · rw [ht, Bool.true_and] at HS
        clear ht
        rcases hv : vld m with _ | _
        · rw [hv, Bool.false_and, Bool.false_and] at HS
          rw [hv] at HV
          clear hv
          go_wp2_with (first | (go_at_call 24; refine (HV.out _).mono ?_; rintro e w' ⟨rfl, rfl⟩))
          go_ret
          exact ⟨ret_bool HS.out.symm, HB2.out⟩
        · rw [hv, Bool.true_and] at HS
          rw [hv] at HV
          clear hv
          rcases hn : named f with _ | _
          · rw [hn, Bool.false_and] at HS
            rw [hn] at HN
            clear hn
            go_wp2_with (first | (go_at_call 24; refine (HV.out _).mono ?_; rintro e w' ⟨rfl, rfl⟩) | (go_at_call 23; refine (HN.out _ HB2.out).mono ?_; rintro e w' ⟨rfl, hb1⟩))
            go_ret
            exact ⟨ret_bool HS.out.symm, HB2.out.trans (hb1.mono HB2.out.size)⟩
          · rw [hn, Bool.true_and] at HS
            rw [hn] at HN
            clear hn
            go_wp2_with (first | (go_at_call 24; refine (HV.out _).mono ?_; rintro e w' ⟨rfl, rfl⟩) | (go_at_call 23; refine (HN.out _ HB2.out).mono ?_; rintro e w' ⟨rfl, hb1⟩))
            go_ret
            exact ⟨ret_bool HS.out.symm, HB2.out.trans (hb1.mono HB2.out.size)⟩
end Go.Proofs.Ytiohiiekaofkbaa
