/- Texts of this claim, as far as they are used here: L15, O7. -/
import Derived.Test.YtiohiiekaofkbaaGreatDoorZ16
import Derived.Test.YtiohiiekaofkbaaGreatDoorZ14
import Derived.WideShapes
import Derived.Lib.SmallJoins
import Derived.SizedLaws
import Derived.ChangeOld
import Derived.ShutString
import Derived.ProofKit
import Derived.OpenShut
/- The walk of the statement NamesReads. -/
namespace Go.Proofs.YtiohiiekaofkbaaGreatDoor
set_option linter.unusedVariables false
set_option linter.unusedSimpArgs false
open Go.RowKit Go.Proofs.YtiohiiekaofkbaaGreatDoor.PNamesReads Go.Proofs.YtiohiiekaofkbaaGreatDoorW.PrintWords
def FirstAt (l : List S91) (i : Nat) (f : Int) : Prop := (f = -1 ∧ ∀ j (hj : j < l.length), j < i → (l[j].f1.toList == [110, 97, 109, 101]) = false) ∨ (∃ k : Nat, f = (k : Int) ∧ k < i ∧ ∃ hk : k < l.length, (l[k].f1.toList == [110, 97, 109, 101]) = true ∧ ∀ j (hj : j < l.length), j < k → (l[j].f1.toList == [110, 97, 109, 101]) = false)
theorem no_next {l : List S91} (i : Nat) (hi : i < l.length) (h : ∀ j (hj : j < l.length), j < i → (l[j].f1.toList == [110, 97, 109, 101]) = false) (h2 : (l[i].f1.toList == [110, 97, 109, 101]) = false) : ∀ j (hj : j < l.length), j < i + 1 → (l[j].f1.toList == [110, 97, 109, 101]) = false := by
  intro j hj hji
  rcases Nat.lt_or_ge j i with h3 | h3
  · exact h j hj h3
  · have : j = i := by omega
    subst this
    exact h2
theorem back_dwalk (x : Ns) (A : Option Addr) (c : Nat) (B : Option Addr) (d : Nat) (W : World) (h : x.at A c B d W) (hs : x.some3) :
    Calls Tryz.prog 7 #[.agg #[.bool x.hm, .bool x.hf, .bool x.hl, .string x.md, .slice A x.fs.length c, .slice B x.ls.length d]] W (fun e w' => ∃ A' c' B' d', e = .returned (.agg #[.bool x.back.hm, .bool x.back.hf, .bool x.back.hl, .string x.back.md, .slice A' x.back.fs.length c', .slice B' x.back.ls.length d']) ∧ x.back.at A' c' B' d' w' ∧ Below W.heap.size W w') := back_walk x A c B d W h hs
theorem keepC12 {p0 p1 p2 p3 p4 p5 p6 p7 p8 p9 p10 p11 : Addr} {a0 a1 a2 a3 a4 a5 a6 a7 a8 a9 a10 a11 : Value} {w W W' : World} {B : Nat} (h : W.cell? p0 = some a0 ∧ W.cell? p1 = some a1 ∧ W.cell? p2 = some a2 ∧ W.cell? p3 = some a3 ∧ W.cell? p4 = some a4 ∧ W.cell? p5 = some a5 ∧ W.cell? p6 = some a6 ∧ W.cell? p7 = some a7 ∧ W.cell? p8 = some a8 ∧ W.cell? p9 = some a9 ∧ W.cell? p10 = some a10 ∧ W.cell? p11 = some a11 ∧ Below B w W ∧ B ≤ W.heap.size) (hb : Below W.heap.size W W') : W'.cell? p0 = some a0 ∧ W'.cell? p1 = some a1 ∧ W'.cell? p2 = some a2 ∧ W'.cell? p3 = some a3 ∧ W'.cell? p4 = some a4 ∧ W'.cell? p5 = some a5 ∧ W'.cell? p6 = some a6 ∧ W'.cell? p7 = some a7 ∧ W'.cell? p8 = some a8 ∧ W'.cell? p9 = some a9 ∧ W'.cell? p10 = some a10 ∧ W'.cell? p11 = some a11 ∧ Below B w W' ∧ B ≤ W'.heap.size :=
  ⟨pw_cell_below hb h.1, pw_cell_below hb h.2.1, pw_cell_below hb h.2.2.1, pw_cell_below hb h.2.2.2.1, pw_cell_below hb h.2.2.2.2.1, pw_cell_below hb h.2.2.2.2.2.1, pw_cell_below hb h.2.2.2.2.2.2.1, pw_cell_below hb h.2.2.2.2.2.2.2.1, pw_cell_below hb h.2.2.2.2.2.2.2.2.1, pw_cell_below hb h.2.2.2.2.2.2.2.2.2.1, pw_cell_below hb h.2.2.2.2.2.2.2.2.2.2.1, pw_cell_below hb h.2.2.2.2.2.2.2.2.2.2.2.1, h.2.2.2.2.2.2.2.2.2.2.2.2.1.trans (hb.mono h.2.2.2.2.2.2.2.2.2.2.2.2.2), Nat.le_trans h.2.2.2.2.2.2.2.2.2.2.2.2.2 hb.size⟩
theorem NmC.new (w : World) (b1 b2 b3 : Bool) (m : ByteArray) (vf vl : Value) (T : Nat) : NmC w.heap.size b1 b2 b3 m vf vl (w.alloc (.cells #[.bool b1, .bool b2, .bool b3, .string m, vf, vl] T)) :=
  ⟨by go_simp, by go_simp, by go_simp, by go_simp, by go_simp, by go_simp, by go_simp, by go_simp, by go_simp, by go_simp, by go_simp, by go_simp⟩
theorem NmC.below {g : Nat} {b1 b2 b3 : Bool} {m : ByteArray} {vf vl : Value} {w W : World} (h : NmC g b1 b2 b3 m vf vl w) (hb : Below w.heap.size w W) : NmC g b1 b2 b3 m vf vl W := h.blk (hb.block _ h.lt)
set_option maxRecDepth 100000 in
set_option maxHeartbeats 8000000 in
theorem reads_law (s : ByteArray) (A : Option Addr) (c : Nat) (l : List S91) (w : World) (hA : CusAt w A l) (hl : l.length ≤ 140737488355328) (hs : s.size ≤ 140737488355328) (hb : ∀ x ∈ l, x.f2.size ≤ 140737488355328) (hG : Glob w) (hM : GlobM w) :
    Calls Tryz.prog 3 #[.string s, .slice A l.length c] w fun e w' => e = .returned (.bool true) ∧ Below w.heap.size w w' := by
  have HA := hid hA
  have HG := hid hG
  have HM := hid hM
  have HB := hid hb
  clear hA hG hM hb
  by_cases hs1 : (2000 : Int) < (s.size : Int)
  · go_enter Tryz.func3, Tryz.ntmps3
    go_wp2_with fail
    go_ret
    exact ⟨rfl, Below.refl _ _⟩
  · by_cases hl1 : (20 : Int) < (l.length : Int)
    · go_enter Tryz.func3, Tryz.ntmps3
      go_wp2_with fail
      go_ret
      exact ⟨rfl, Below.refl _ _⟩
    · have hs2 : s.size ≤ 2000 := by omega
      have hl2 : l.length ≤ 20 := by omega
      have HNR := hid (nread2 s w HG.out HM.out hs2)
      go_enter Tryz.func3, Tryz.ntmps3
      go_upto_region 4 with (first | (go_at_call 4; go_loud ((with_reducible refine HNR.out.mono ?_); rintro e w1 ⟨x, A1, c1, B1, d1, b1, rfl, hx1, hT1, hb1⟩; have HX1 := hid hx1; have HT1 := hid hT1; have HB1 := hid hb1; clear hx1 hT1 hb1)))
      obtain ⟨W1, hW1⟩ : ∃ W1, W1 = w1.alloc (.cells #[.bool x.hm, .bool x.hf, .bool x.hl, .string x.md, .slice A1 x.fs.length c1, .slice B1 x.ls.length d1] 26) := ⟨_, rfl⟩
      have hb1a : Below w1.heap.size w1 W1 := by rw [hW1]; exact below_alloc (Below.refl _ _) _
      have KP := hid (show NmC w1.heap.size x.hm x.hf x.hl x.md (.slice A1 x.fs.length c1) (.slice B1 x.ls.length d1) W1 by rw [hW1]; exact NmC.new _ _ _ _ _ _ _ _)
      have HX1 := hid (HX1.out.below hb1a)
      have K1 := hid (HB1.out.trans (hb1a.mono HB1.out.size))
      rw [← hW1]
      clear hW1 hb1a HB1 HNR
      go_upto_region 5 with (first | (go_at_call 5; go_loud ((with_reducible refine (dread2 s _ hs2 HT1.out).mono ?_); rintro e w2 ⟨A2, c2, B2, d2, rfl, hx2, hb2⟩; have HX2 := hid hx2; have HB2 := hid hb2; clear hx2 hb2)))
      obtain ⟨W2, hW2⟩ : ∃ W2, W2 = w2.alloc (.cells #[.bool x.back.hm, .bool x.back.hf, .bool x.back.hl, .string x.back.md, .slice A2 x.back.fs.length c2, .slice B2 x.back.ls.length d2] 32) := ⟨_, rfl⟩
      have hb2a : Below w2.heap.size w2 W2 := by rw [hW2]; exact below_alloc (Below.refl _ _) _
      have KQ := hid (show NmC w2.heap.size x.back.hm x.back.hf x.back.hl x.back.md (.slice A2 x.back.fs.length c2) (.slice B2 x.back.ls.length d2) W2 by rw [hW2]; exact NmC.new _ _ _ _ _ _ _ _)
      have HX2 := hid (HX2.out.at.below hb2a)
      have HX1 := hid ((HX1.out.below HB2.out).below hb2a)
      have KP := hid ((KP.out.below HB2.out).below hb2a)
      have K2 := K1.out.trans (HB2.out.mono K1.out.size)
      have hlt : w.heap.size ≤ w2.heap.size := K2.size
      have K2 := hid (K2.trans (hb2a.mono K2.size))
      rw [← hW2]
      clear hW2 hb2a HB2 K1
      have HFEW := hid HT1.out.few
      have S0 : W2.cell? ⟨w1.heap.size, 0, none⟩ = some (.bool x.hm) ∧ W2.cell? ⟨w1.heap.size, 1, none⟩ = some (.bool x.hf) ∧ W2.cell? ⟨w1.heap.size, 2, none⟩ = some (.bool x.hl) ∧ W2.cell? ⟨w1.heap.size, 3, none⟩ = some (.string x.md) ∧ W2.cell? ⟨w1.heap.size, 4, none⟩ = some (.slice A1 x.fs.length c1) ∧ W2.cell? ⟨w1.heap.size, 5, none⟩ = some (.slice B1 x.ls.length d1) ∧ W2.cell? ⟨w2.heap.size, 0, none⟩ = some (.bool x.back.hm) ∧ W2.cell? ⟨w2.heap.size, 1, none⟩ = some (.bool x.back.hf) ∧ W2.cell? ⟨w2.heap.size, 2, none⟩ = some (.bool x.back.hl) ∧ W2.cell? ⟨w2.heap.size, 3, none⟩ = some (.string x.back.md) ∧ W2.cell? ⟨w2.heap.size, 4, none⟩ = some (.slice A2 x.back.fs.length c2) ∧ W2.cell? ⟨w2.heap.size, 5, none⟩ = some (.slice B2 x.back.ls.length d2) ∧ Below W2.heap.size W2 W2 ∧ W2.heap.size ≤ W2.heap.size := by
        obtain ⟨y0, y1, y2, y3, y4, y5, -, -, -, -, -, -⟩ := KP.out
        obtain ⟨z0, z1, z2, z3, z4, z5, -, -, -, -, -, -⟩ := KQ.out
        exact ⟨y0, y1, y2, y3, y4, y5, z0, z1, z2, z3, z4, z5, Below.refl _ _, Nat.le_refl _⟩
      refine wp_region_noPanic ?_
      refine wp_region_held_drew (S := (fun W => W.cell? ⟨w1.heap.size, 0, none⟩ = some (.bool x.hm) ∧ W.cell? ⟨w1.heap.size, 1, none⟩ = some (.bool x.hf) ∧ W.cell? ⟨w1.heap.size, 2, none⟩ = some (.bool x.hl) ∧ W.cell? ⟨w1.heap.size, 3, none⟩ = some (.string x.md) ∧ W.cell? ⟨w1.heap.size, 4, none⟩ = some (.slice A1 x.fs.length c1) ∧ W.cell? ⟨w1.heap.size, 5, none⟩ = some (.slice B1 x.ls.length d1) ∧ W.cell? ⟨w2.heap.size, 0, none⟩ = some (.bool x.back.hm) ∧ W.cell? ⟨w2.heap.size, 1, none⟩ = some (.bool x.back.hf) ∧ W.cell? ⟨w2.heap.size, 2, none⟩ = some (.bool x.back.hl) ∧ W.cell? ⟨w2.heap.size, 3, none⟩ = some (.string x.back.md) ∧ W.cell? ⟨w2.heap.size, 4, none⟩ = some (.slice A2 x.back.fs.length c2) ∧ W.cell? ⟨w2.heap.size, 5, none⟩ = some (.slice B2 x.back.ls.length d2) ∧ Below W2.heap.size W2 W ∧ W2.heap.size ≤ W.heap.size)) (by kernel_rfl) ?hSr1 (fun hHeld => ?gor1)
      case hSr1 => exact keepC12 S0 (below_drew (Below.refl _ _))
      refine tk 0 ⟨some 31, .move (.tmp 6), 4, "law.go:94", #[], none⟩ rfl ?_
      refine tk 1 ⟨some 32, .move (.tmp 8), 4, "law.go:94", #[], none⟩ rfl ?_
      refine tk 2 ⟨some 33, .binOp .neq 4 (.tmp 31) (.tmp 32) 4, 4, "law.go:94", #[⟨0, .data⟩, ⟨1, .data⟩], none⟩ rfl ?_
      refine tk 3 ⟨some 34, .move (.tmp 33), 4, "law.go:94", #[⟨2, .data⟩], none⟩ rfl ?_
      refine tk 4 ⟨some 35, .load 26 (.tmp 5), 26, "law.go:94", #[⟨3, .guard⟩], some (3, false)⟩ rfl ?_
      refine tk 6 ⟨some 37, .load 32 (.tmp 7), 32, "law.go:94", #[⟨3, .guard⟩], some (3, false)⟩ rfl ?_
      refine wpAnyH_ready (rs := [5]) (by kernel_rfl) (by simp) ?_
      refine AllReadyH.cons (o := ⟨some 36, .call { callee := .value (.func 7), args := #[.tmp 35], argTypes := #[26] }, 32, "law.go:94", #[⟨4, .data⟩, ⟨3, .chain⟩, ⟨3, .guard⟩], some (3, false)⟩) rfl (fun K hK => ?_) AllReadyH.nil
      go_simp
      go_at_call 7; (with_reducible refine (back_dwalk x _ _ _ _ _ (HX1.out.below (hHeld.2.2.2.2.2.2.2.2.2.2.2.2.1)) HFEW.out).mono ?_); rintro e w7 ⟨A7, c7, B7, d7, rfl, hat7, hb1⟩; have HAT := hid hat7; clear hat7
      refine hK.out _ _ ?_ (fun hHeld => ?_)
      · (try dsimp only); exact keepC12 hHeld hb1
      clear hK K
      try simp only [Act.put, List.setIfInBounds_toArray, List.set_cons_zero, List.set_cons_succ]
      refine wpAnyH_ready (rs := [7]) (by kernel_rfl) (by simp) ?_
      refine AllReadyH.cons (o := ⟨some 38, .call { callee := .value (.func 6), args := #[.tmp 36, .tmp 37], argTypes := #[32, 32] }, 4, "law.go:94", #[⟨5, .data⟩, ⟨6, .data⟩, ⟨5, .chain⟩, ⟨3, .guard⟩], some (3, false)⟩) rfl (fun K hK => ?_) AllReadyH.nil
      go_simp
      go_at_call 6; (with_reducible refine (dsame_walk x.back _ _ _ _ _ _ _ _ _ HAT.out (HX2.out.below (hHeld.2.2.2.2.2.2.2.2.2.2.2.2.1)) (back_some3 HFEW.out)).mono ?_); rintro e w8 ⟨rfl, hb1⟩
      refine hK.out _ _ ?_ (fun hHeld => ?_)
      · (try dsimp only); exact keepC12 hHeld hb1
      clear hK K
      try simp only [Act.put, List.setIfInBounds_toArray, List.set_cons_zero, List.set_cons_succ]
      refine tk 8 ⟨some 39, .unOp .not 4 (.tmp 38), 4, "law.go:94", #[⟨7, .data⟩, ⟨3, .guard⟩], some (3, false)⟩ rfl ?_
      refine tk 9 ⟨some 40, .pick (.tmp 34) (.const (.bool true)) (.tmp 39), 4, "law.go:94", #[⟨3, .data⟩, ⟨8, .data⟩], none⟩ rfl ?_
      refine wpAnyH_done (by kernel_rfl) ?_ _
      refine NoPanic.normal ?_
      have HW := hid (hHeld.2.2.2.2.2.2.2.2.2.2.2.2.1)
      clear hHeld S0 HX1 HX2 KP HFEW HAT
      go_wp2_with fail
      clear hb1
      go_loopw [9, 10] (fun v9 v10 wr => ∃ (i : Nat) (f : Int), v9 = .int .i64 f ∧ v10 = .int .i64 i ∧ i ≤ l.length ∧ Hid (FirstAt l i f) ∧ Hid (∀ j (hj : j < l.length), j < i → l[j].f2.size ≤ 2000) ∧ Hid (Below W2.heap.size W2 wr)) (fun _ v10 _ => l.length - (intOf v10).toNat)
      case atStart => exact ⟨0, -1, rfl, rfl, Nat.zero_le _, hid (.inl ⟨rfl, fun j hj h => absurd h (Nat.not_lt_zero j)⟩), hid (fun j hj h => absurd h (Nat.not_lt_zero j)), HW⟩
      case round =>
        obtain ⟨i, f, rfl, rfl, hil, HF, HSZ, HR⟩ := hrel
        by_cases hi : i < l.length
        · obtain ⟨ad, rfl, s0, s1, s2⟩ := HA.out.below (K2.out.trans (HR.out.mono K2.out.size)) i hi
          obtain ⟨y, hy⟩ : ∃ y, l[i] = y := ⟨_, rfl⟩
          rw [hy] at s0 s1 s2
          have hi2 : (i : Int) < (l.length : Int) := by omega
          have HY := hid hy
          clear hy
          by_cases hbig : (2000 : Int) < (y.f2.size : Int)
          · go_wp2_with fail
            go_ret
            exact ⟨rfl, K2.out.trans (HR.out.mono K2.out.size)⟩
          · go_upto_region 13 with fail
            have HSZ2 : Hid (∀ j (hj : j < l.length), j < i + 1 → l[j].f2.size ≤ 2000) := hid (fun j hj h => (by
              rcases Nat.lt_or_ge j i with h | h
              · exact HSZ.out j hj h
              · have : j = i := by omega
                subst this
                rw [HY.out]; omega))
            rcases HF.out with ⟨rfl, hno⟩ | ⟨k, rfl, hk, hkl, hk2, hk3⟩
            · have HNO := hid hno
              clear hno
              rcases hq : (y.f1.toList == [110, 97, 109, 101]) with _ | _
              · have hq2 : ¬ y.f1.toList = [110, 97, 109, 101] := by simpa using hq
                have hq3 := hid hq
                go_wp2_with fail
                exact ⟨⟨i + 1, -1, rfl, by go_num, by omega, hid (.inl ⟨rfl, no_next i hi HNO.out (by rw [HY.out]; exact hq3.out)⟩), HSZ2, HR⟩, by simp [intOf]; omega⟩
              · have hq2 : y.f1.toList = [110, 97, 109, 101] := by simpa using hq
                have hq3 := hid hq
                go_wp2_with fail
                exact ⟨⟨i + 1, i, rfl, by go_num, by omega, hid (.inr ⟨i, rfl, by omega, hi, by rw [HY.out]; exact hq3.out, HNO.out⟩), HSZ2, HR⟩, by simp [intOf]; omega⟩
            · have HK2 := hid hk2
              have HK3 := hid hk3
              clear hk2 hk3
              have hkn : ¬ (k : Int) < 0 := by omega
              go_wp2_with fail
              exact ⟨⟨i + 1, k, rfl, by go_num, by omega, hid (.inr ⟨k, rfl, by omega, hkl, HK2.out, HK3.out⟩), HSZ2, HR⟩, by simp [intOf]; omega⟩
        · have hi2 : ¬ (i : Int) < (l.length : Int) := by omega
          have hil2 : i = l.length := by omega
          subst hil2
          have HW3 := hid (K2.out.trans (HR.out.mono K2.out.size))
          have HCU := hid (HA.out.below HW3.out)
          have HSB := hid (show ∀ x ∈ l, x.f2.size ≤ 2000 from fun x hx => by obtain ⟨j, hj, rfl⟩ := List.getElem_of_mem hx; exact HSZ.out j hj hj)
          have hKQ2 := KQ.out.lt
          have KQ := hid (KQ.out.below HR.out)
          have hszr := HR.out.size
          go_upto_region 16 with (first | (go_at_call 9; go_loud ((with_reducible refine (own10_walk _ _ l _ HCU.out hl2).mono ?_); rintro e w3 ⟨fa, fc, A3, c3, rfl, hc3, hl3, hb3⟩; have HC3 := hid hc3; have HB3 := hid hb3; have K3 := hid (HW3.out.trans (hb3.mono HW3.out.size)); have KQ := hid (KQ.out.below hb3); clear hc3 hb3)) | (go_at_call 8; go_loud ((with_reducible refine (of2 _ _ _ _ l _ HC3.out hl3 hl2 (HG.out.of K3.out) (HM.out.below K3.out) HSB.out).mono ?_); rintro e w4 ⟨z, A4, c4, B4, d4, b4, rfl, hz4, hT4, hb4⟩; have HZ4 := hid hz4; have HT4 := hid hT4; have HB4 := hid hb4; clear hz4 hT4 hb4)))
          obtain ⟨W4, hW4⟩ : ∃ W4, W4 = w4.alloc (.cells #[.bool z.hm, .bool z.hf, .bool z.hl, .string z.md, .slice A4 z.fs.length c4, .slice B4 z.ls.length d4] 26) := ⟨_, rfl⟩
          have hb4a : Below w4.heap.size w4 W4 := by rw [hW4]; exact below_alloc (Below.refl _ _) _
          have KM := hid (show NmC w4.heap.size z.hm z.hf z.hl z.md (.slice A4 z.fs.length c4) (.slice B4 z.ls.length d4) W4 by rw [hW4]; exact NmC.new _ _ _ _ _ _ _ _)
          have hb3s := HB3.out.size
          have hb4s := HB4.out.size
          have HZ4 := hid (HZ4.out.step (fun k _ hk => hb4a.block k hk))
          have KQ := hid ((KQ.out.below HB4.out).below hb4a)
          have K4 := K3.out.trans (HB4.out.mono K3.out.size)
          have K4 := hid (K4.trans (hb4a.mono K4.size))
          have hlt3 : w2.heap.size < w3.heap.size := by omega
          rw [← hW4]
          clear hW4 HB4 HB3 hszr hb4a
          rcases HF.out with ⟨rfl, hno⟩ | ⟨k, rfl, hk, hkl, hk2, hk3⟩
          · have hfi := firstC_none l (fun j hj => hno j hj hj)
            have ht := HT4.out
            rw [hfi] at ht
            obtain ⟨rfl, rfl⟩ := ht
            have HZA := hid HZ4.out.at
            obtain ⟨m0, m1, m2, m3, m4, m5, -, -, -, -, -, -⟩ := (show NmC w4.heap.size false false false ⟨#[]⟩ (.slice A4 0 c4) (.slice B4 0 d4) W4 from KM.out)
            clear hno hfi KM
            go_wp2_with (first | (go_at_call 10; (with_reducible refine (zero_same _ _ _ _ _ HZA.out).mono ?_); rintro e w5 ⟨rfl, hb5⟩) | (go_at_call 11; (with_reducible refine (awake14_walk _).mono ?_); rintro e w6 ⟨rfl, hb6⟩))
            go_ret
            exact ⟨rfl, (K4.out.trans (hb5.mono K4.out.size)).trans (hb6.mono (K4.out.trans (hb5.mono K4.out.size)).size)⟩
          · have hfi := firstC_at l k hkl hk3 hk2
            obtain ⟨y, hy⟩ : ∃ y, l[k] = y := ⟨_, rfl⟩
            have hys : y.f2.size ≤ 2000 := by rw [← hy]; exact HSZ.out k hkl hkl
            rw [hy] at hfi
            have ht := HT4.out
            rw [hfi] at ht
            have HT := hid (show Told (ns y.f2) z b4 from ht)
            obtain ⟨ad, rfl, s0, s1, s2⟩ := HA.out.below K4.out k hkl
            rw [hy] at s0 s1 s2
            have hkn : ¬ (k : Int) < 0 := by omega
            have hkl2 : (k : Int) < (l.length : Int) := by omega
            clear hy ht hfi hk2 hk3
            go_upto_region 19 with (first | (go_at_call 5; go_loud ((with_reducible refine (dread2 y.f2 _ hys HT.out).mono ?_); rintro e w5 ⟨A5, c5, B5, d5, rfl, hx5, hb5⟩; have HX5 := hid hx5; have HB5 := hid hb5; clear hx5 hb5; have KQ5 := hid (KQ.out.below HB5.out); have KM5 := hid (KM.out.below HB5.out); obtain ⟨r0, r1, r2, r3, r4, r5, z0, z1, z2, z3, z4, z5⟩ := KQ5.out)))
            have hne : w4.heap.size ≠ w2.heap.size := by omega
            have K5 := hid (K4.out.trans (HB5.out.mono K4.out.size))
            have hb5s := HB5.out.size
            have hw4s := KM.out.lt
            obtain ⟨W9, hW9⟩ : ∃ W9, W9 = ((((((w5.setCell ⟨w2.heap.size, 0, none⟩ (.bool z.back.hm)).setCell ⟨w2.heap.size, 1, none⟩ (.bool z.back.hf)).setCell ⟨w2.heap.size, 2, none⟩ (.bool z.back.hl)).setCell ⟨w2.heap.size, 3, none⟩ (.string z.back.md)).setCell ⟨w2.heap.size, 4, none⟩ (.slice A5 z.back.fs.length c5)).setCell ⟨w2.heap.size, 5, none⟩ (.slice B5 z.back.ls.length d5)) := ⟨_, rfl⟩
            have K9 := hid (show Below w.heap.size w W9 by rw [hW9]; exact below_set6 (K5.out) _ hlt _ _ _ _ _ _)
            have KN := hid (show NmC w2.heap.size z.back.hm z.back.hf z.back.hl z.back.md (.slice A5 z.back.fs.length c5) (.slice B5 z.back.ls.length d5) W9 by rw [hW9]; exact (((((KQ5.out.set0 _).set1 _).set2 _).set3 _).set4 _).set5 _)
            have hq9 : ∀ k, k ≠ w2.heap.size → W9.heap[k]? = w5.heap[k]? := fun k hk => by rw [hW9]; exact heap_set6 w5 _ k hk _ _ _ _ _ _
            have KM9 := hid (KM5.out.blk (hq9 _ hne))
            have HZ9 := hid ((HZ4.out.step (fun k _ hk => HB5.out.block k hk)).step (fun k hk _ => hq9 k (by omega)))
            have HX9 := hid (HX5.out.step (fun k hk _ => hq9 k (by omega)))
            rw [← hW9]
            clear hW9 hq9 r0 r1 r2 r3 r4 r5 z0 z1 z2 z3 z4 z5 KQ5 KM5 HX5 HB5 KM HZ4 s0 s1 s2
            have HFEW := hid HT.out.few
            have S0 : W9.cell? ⟨w4.heap.size, 0, none⟩ = some (.bool z.hm) ∧ W9.cell? ⟨w4.heap.size, 1, none⟩ = some (.bool z.hf) ∧ W9.cell? ⟨w4.heap.size, 2, none⟩ = some (.bool z.hl) ∧ W9.cell? ⟨w4.heap.size, 3, none⟩ = some (.string z.md) ∧ W9.cell? ⟨w4.heap.size, 4, none⟩ = some (.slice A4 z.fs.length c4) ∧ W9.cell? ⟨w4.heap.size, 5, none⟩ = some (.slice B4 z.ls.length d4) ∧ W9.cell? ⟨w2.heap.size, 0, none⟩ = some (.bool z.back.hm) ∧ W9.cell? ⟨w2.heap.size, 1, none⟩ = some (.bool z.back.hf) ∧ W9.cell? ⟨w2.heap.size, 2, none⟩ = some (.bool z.back.hl) ∧ W9.cell? ⟨w2.heap.size, 3, none⟩ = some (.string z.back.md) ∧ W9.cell? ⟨w2.heap.size, 4, none⟩ = some (.slice A5 z.back.fs.length c5) ∧ W9.cell? ⟨w2.heap.size, 5, none⟩ = some (.slice B5 z.back.ls.length d5) ∧ Below W9.heap.size W9 W9 ∧ W9.heap.size ≤ W9.heap.size := by
              obtain ⟨y0, y1, y2, y3, y4, y5, -, -, -, -, -, -⟩ := KM9.out
              obtain ⟨z0, z1, z2, z3, z4, z5, -, -, -, -, -, -⟩ := KN.out
              exact ⟨y0, y1, y2, y3, y4, y5, z0, z1, z2, z3, z4, z5, Below.refl _ _, Nat.le_refl _⟩
            refine wp_region_noPanic ?_
            refine wp_region_held_drew (S := (fun W => W.cell? ⟨w4.heap.size, 0, none⟩ = some (.bool z.hm) ∧ W.cell? ⟨w4.heap.size, 1, none⟩ = some (.bool z.hf) ∧ W.cell? ⟨w4.heap.size, 2, none⟩ = some (.bool z.hl) ∧ W.cell? ⟨w4.heap.size, 3, none⟩ = some (.string z.md) ∧ W.cell? ⟨w4.heap.size, 4, none⟩ = some (.slice A4 z.fs.length c4) ∧ W.cell? ⟨w4.heap.size, 5, none⟩ = some (.slice B4 z.ls.length d4) ∧ W.cell? ⟨w2.heap.size, 0, none⟩ = some (.bool z.back.hm) ∧ W.cell? ⟨w2.heap.size, 1, none⟩ = some (.bool z.back.hf) ∧ W.cell? ⟨w2.heap.size, 2, none⟩ = some (.bool z.back.hl) ∧ W.cell? ⟨w2.heap.size, 3, none⟩ = some (.string z.back.md) ∧ W.cell? ⟨w2.heap.size, 4, none⟩ = some (.slice A5 z.back.fs.length c5) ∧ W.cell? ⟨w2.heap.size, 5, none⟩ = some (.slice B5 z.back.ls.length d5) ∧ Below W9.heap.size W9 W ∧ W9.heap.size ≤ W.heap.size)) (by kernel_rfl) ?hSe1 (fun hHeld => ?goe1)
            case hSe1 => exact keepC12 S0 (below_drew (Below.refl _ _))
            refine tk 0 ⟨some 93, .move (.tmp 12), 4, "law.go:111", #[], none⟩ rfl ?_
            refine tk 1 ⟨some 94, .move (.tmp 8), 4, "law.go:111", #[], none⟩ rfl ?_
            refine tk 2 ⟨some 95, .binOp .eql 4 (.tmp 93) (.tmp 94) 4, 4, "law.go:111", #[⟨0, .data⟩, ⟨1, .data⟩], none⟩ rfl ?_
            refine tk 3 ⟨some 96, .move (.tmp 95), 4, "law.go:111", #[⟨2, .data⟩], none⟩ rfl ?_
            refine tk 4 ⟨some 97, .load 26 (.tmp 11), 26, "law.go:111", #[⟨3, .guard⟩], some (3, true)⟩ rfl ?_
            refine tk 6 ⟨some 99, .load 32 (.tmp 7), 32, "law.go:111", #[⟨3, .guard⟩], some (3, true)⟩ rfl ?_
            refine wpAnyH_ready (rs := [5]) (by kernel_rfl) (by simp) ?_
            refine AllReadyH.cons (o := ⟨some 98, .call { callee := .value (.func 7), args := #[.tmp 97], argTypes := #[26] }, 32, "law.go:111", #[⟨4, .data⟩, ⟨3, .chain⟩, ⟨3, .guard⟩], some (3, true)⟩) rfl (fun K hK => ?_) AllReadyH.nil
            go_simp
            go_at_call 7; (with_reducible refine (back_dwalk z _ _ _ _ _ (HZ9.out.at.below (hHeld.2.2.2.2.2.2.2.2.2.2.2.2.1)) HFEW.out).mono ?_); rintro e w7 ⟨A7, c7, B7, d7, rfl, hat7, hb1⟩; have HAT := hid hat7; clear hat7
            refine hK.out _ _ ?_ (fun hHeld => ?_)
            · (try dsimp only); exact keepC12 hHeld hb1
            clear hK K
            try simp only [Act.put, List.setIfInBounds_toArray, List.set_cons_zero, List.set_cons_succ]
            refine wpAnyH_ready (rs := [7]) (by kernel_rfl) (by simp) ?_
            refine AllReadyH.cons (o := ⟨some 100, .call { callee := .value (.func 6), args := #[.tmp 98, .tmp 99], argTypes := #[32, 32] }, 4, "law.go:111", #[⟨5, .data⟩, ⟨6, .data⟩, ⟨5, .chain⟩, ⟨3, .guard⟩], some (3, true)⟩) rfl (fun K hK => ?_) AllReadyH.nil
            go_simp
            go_at_call 6; (with_reducible refine (dsame_walk z.back _ _ _ _ _ _ _ _ _ HAT.out (HX9.out.at.below (hHeld.2.2.2.2.2.2.2.2.2.2.2.2.1)) (back_some3 HFEW.out)).mono ?_); rintro e w8 ⟨rfl, hb1⟩
            refine hK.out _ _ ?_ (fun hHeld => ?_)
            · (try dsimp only); exact keepC12 hHeld hb1
            clear hK K
            try simp only [Act.put, List.setIfInBounds_toArray, List.set_cons_zero, List.set_cons_succ]
            refine tk 8 ⟨some 101, .pick (.tmp 96) (.tmp 100) (.const (.bool false)), 4, "law.go:111", #[⟨3, .data⟩, ⟨7, .data⟩], none⟩ rfl ?_
            refine tk 9 ⟨some 102, .move (.tmp 101), 4, "law.go:111", #[⟨8, .data⟩, ⟨7, .chain⟩], none⟩ rfl ?_
            refine wpAnyH_ready (rs := [10]) (by kernel_rfl) (by simp) ?_
            refine AllReadyH.cons (o := ⟨some 103, .call { callee := .value (.func 11), args := #[], argTypes := #[] }, 4, "law.go:111", #[⟨9, .chain⟩, ⟨9, .guard⟩], some (9, true)⟩) rfl (fun K hK => ?_) AllReadyH.nil
            go_simp
            go_at_call 11; (with_reducible refine (awake14_walk _).mono ?_); rintro e w9 ⟨rfl, hb1⟩
            refine hK.out _ _ ?_ (fun hHeld => ?_)
            · (try dsimp only); exact keepC12 hHeld hb1
            clear hK K
            try simp only [Act.put, List.setIfInBounds_toArray, List.set_cons_zero, List.set_cons_succ]
            refine tk 11 ⟨some 104, .pick (.tmp 102) (.tmp 103) (.const (.bool false)), 4, "law.go:111", #[⟨9, .data⟩, ⟨10, .data⟩], none⟩ rfl ?_
            refine tk 12 ⟨some 4, .assign (.tmp 104), 4, "law.go:111", #[⟨11, .data⟩, ⟨10, .chain⟩, ⟨0, .phase⟩, ⟨1, .phase⟩, ⟨2, .phase⟩, ⟨3, .phase⟩, ⟨4, .phase⟩, ⟨5, .phase⟩, ⟨6, .phase⟩, ⟨7, .phase⟩, ⟨8, .phase⟩, ⟨9, .phase⟩, ⟨10, .phase⟩, ⟨11, .phase⟩], none⟩ rfl ?_
            refine wpAnyH_done (by kernel_rfl) ?_ _
            refine NoPanic.normal ?_
            go_wp2_with fail
            go_ret
            exact ⟨rfl, K9.out.trans (Below.mono (hHeld.2.2.2.2.2.2.2.2.2.2.2.2.1) K9.out.size)⟩
end Go.Proofs.YtiohiiekaofkbaaGreatDoor
/- What comes in, opened by its type: numbers, texts, slices, structs; what reads as data holds no more than the reach. -/
namespace Go.Proofs.YtiohiiekaofkbaaGreatDoor
set_option linter.unusedVariables false
set_option linter.unusedSimpArgs false
open Go.RowKit Go.Proofs.YtiohiiekaofkbaaGreatDoor.PNamesReads Go.Proofs.YtiohiiekaofkbaaGreatDoorW.PrintWords Go.ChangeShapes Go.WideShapes Go.Deep Go.Lib
section
variable {H : Type} {enc : TypeId × Value → H} {P : Program} {w : World} {base : Nat} {spare : Nat → Bool} {held : Bool} {α β : Type}
def Opn (enc : TypeId × Value → H) (P : Program) (w : World) (base : Nat) (spare : Nat → Bool) (held : Bool) (e : TypeId) (k : Kd α) (Fine : α → Prop) : Prop :=
  ∀ (n : Nat) (cs : List Value) (x : DataW H × List MemPlace), DataW.trod enc P w base spare held n e cs = some x → (∀ m ∈ x.1.weights P e, m ≤ 140737488351232) → ∃ y, k.K w y cs ∧ Fine y
theorem Opn.mono {e : TypeId} {k : Kd α} {F G : α → Prop} (h : Opn enc P w base spare held e k F) (hg : ∀ y, F y → G y) : Opn enc P w base spare held e k G := fun n cs x hx hw =>
  let ⟨y, h1, h2⟩ := h n cs x hx hw
  ⟨y, h1, hg y h2⟩
theorem opn_int {e : TypeId} {k : IntKind} (he : P.underlying e = some (.int k)) : Opn enc P w base spare held e (Kd.int k) (fun a => (Lit.int k a).wf = true) := fun n cs x hx _ => by
  obtain ⟨a, rfl, rfl, wa⟩ := DataW.trod_int he hx
  exact ⟨a, rfl, wa⟩
theorem opn_string {e : TypeId} (he : P.underlying e = some .string) : Opn enc P w base spare held e Kd.string (fun s => s.size ≤ 140737488351232) := fun n cs x hx hw => by
  obtain ⟨s, rfl, rfl, ws⟩ := DataW.trod_string he hx
  refine ⟨s, rfl, ?_⟩
  have := hw s.data.toList.length (by simp [DataW.weights])
  rwa [Array.length_toList] at this
theorem weights_all {e : TypeId} {ds : List (DataW H)} {d : DataW H} (h : d ∈ ds) : ∀ m ∈ d.weights P e, m ∈ DataW.weightsAll P e ds := by
  induction ds with
  | nil => simp at h
  | cons a t ih =>
    intro m hm
    simp only [DataW.weightsAll, List.mem_append]
    rcases List.mem_cons.1 h with rfl | h
    · exact .inl hm
    · exact .inr (ih h m hm)
theorem opn_slice {t e : TypeId} {k : Kd α} {F : α → Prop} (ht : P.underlying t = some (.slice e)) (hc : P.cellsOf e = k.sz) {B : Nat} (hB : P.bytesOf e = B) (h : Opn enc P w base spare held e k F) :
    Opn enc P w base spare held t (Kd.slice e k) (fun l => l.length * B ≤ 140737488351232 ∧ ∀ y ∈ l, F y) := fun n cs x hx hw => by
  rcases open_slice ht hx with ⟨rfl, rfl⟩ | ⟨a, len, cap, m, n', D, Pl, rfl, hb, hl, hm, hmm, rfl, he⟩
  · exact ⟨[], ⟨none, 0, rfl, Nat.le_refl _, Kd.C_nil _ _⟩, by simp, fun y hy => by simp at hy⟩
  · have hlm : len ≤ m := by rw [hmm]; split <;> omega
    have hwe : ∀ i, i < len → ∀ q ∈ (D i).weights P e, q ≤ 140737488351232 := fun i hi q hq => hw q (by
      simp only [DataW.weights, ht, List.mem_cons, List.mem_append]
      exact .inr (.inl (weights_all (List.mem_map.2 ⟨i, List.mem_range.2 hi, rfl⟩) q hq)))
    have each : ∀ i, i < len → ∃ q : α × List Value, w.cells? base (a.add (i * P.cellsOf e)) (P.cellsOf e) = some q.2 ∧ k.K w q.1 q.2 ∧ F q.1 := fun i hi => by
      obtain ⟨cs', h1, h2⟩ := he i (by omega)
      obtain ⟨y, hy1, hy2⟩ := h n' cs' _ h2 (hwe i hi)
      exact ⟨(y, cs'), h1, hy1, hy2⟩
    rcases Nat.eq_zero_or_pos len with h0 | hpos
    · subst h0
      exact ⟨[], ⟨some a, cap, rfl, by simp, ⟨rfl, by simp, fun h => absurd h (Nat.lt_irrefl 0)⟩⟩, by simp, fun y hy => by simp at hy⟩
    · obtain ⟨q0, _⟩ := each 0 hpos
      have : Nonempty (α × List Value) := ⟨q0⟩
      have each' : ∀ i, ∃ q : α × List Value, i < len → w.cells? base (a.add (i * P.cellsOf e)) (P.cellsOf e) = some q.2 ∧ k.K w q.1 q.2 ∧ F q.1 := fun i => by
        by_cases hi : i < len
        · obtain ⟨q, hq⟩ := each i hi; exact ⟨q, fun _ => hq⟩
        · exact ⟨q0, fun h => absurd h hi⟩
      obtain ⟨Q, hQ⟩ := Classical.axiomOfChoice each'
      refine ⟨(List.range len).map fun i => (Q i).1, ⟨some a, cap, by simp, by simpa using hl, ?_⟩, ?_, ?_⟩
      · refine ⟨rfl, ?_, fun _ => ⟨a, rfl, ?_⟩⟩
        · simp; unfold maxLen at hm; omega
        · intro j p hj
          rw [List.getElem?_map] at hj
          obtain ⟨i, hi, rfl⟩ := Option.map_eq_some_iff.1 hj
          obtain ⟨hlt, rfl⟩ : j < len ∧ i = j := by
            rcases Nat.lt_or_ge j len with h2 | h2
            · rw [List.getElem?_range h2] at hi
              exact ⟨h2, (Option.some.inj hi).symm⟩
            · rw [List.getElem?_eq_none (by simpa using h2)] at hi
              cases hi
          obtain ⟨h1, h2, _⟩ := hQ i hlt
          obtain ⟨_, hlen, hcell⟩ := World.cells?_some h1
          refine ⟨(Q i).2, by rw [hlen, hc], h2, fun r u hu => ?_⟩
          have hr : r < P.cellsOf e := by
            have := (List.getElem?_eq_some_iff.1 hu).1
            omega
          have := hcell r hr
          rw [Go.Deep.add_add, hc] at this
          rw [this, hu]
      · have := hw ((((List.range len).map D).length + ((List.range (m - len)).map fun j => D (len + j)).length) * P.bytesOf e) (by simp [DataW.weights, ht])
        rw [hB] at this
        refine Nat.le_trans (Nat.mul_le_mul_right _ ?_) this
        simp
      · intro y hy
        obtain ⟨i, hi, rfl⟩ := List.mem_map.1 hy
        exact (hQ i (List.mem_range.1 hi)).2.2
theorem weights_fst {ts : List TypeId} {f : TypeId} {d : DataW H} {ds : List (DataW H)} : ∀ m ∈ d.weights P f, m ∈ DataW.weightsEach P (f :: ts) (d :: ds) := fun m hm => by
  simp only [DataW.weightsEach, List.mem_append]; exact .inl hm
theorem weights_rest {ts : List TypeId} {f : TypeId} {d : DataW H} {ds : List (DataW H)} : ∀ m ∈ DataW.weightsEach P ts ds, m ∈ DataW.weightsEach P (f :: ts) (d :: ds) := fun m hm => by
  simp only [DataW.weightsEach, List.mem_append]; exact .inr hm
end
theorem kcC3 : Tryz.prog.cellsOf 3 = 1 := by kernel_rfl
theorem kcC9 : Tryz.prog.cellsOf 9 = 1 := by kernel_rfl
theorem kcCu : Tryz.prog.cellsOf 38 = 3 := by kernel_rfl
def fineCu (x : S91) : Prop := (Lit.int .i64 x.f0).wf = true ∧ x.f1.size ≤ 140737488351232 ∧ x.f2.size ≤ 140737488351232
section
variable {H : Type} {enc : TypeId × Value → H} {w : World} {base : Nat} {spare : Nat → Bool} {held : Bool}
set_option maxRecDepth 100000 in
theorem opn_rCustom : Opn enc Tryz.prog w base spare held 38 k91 fineCu := fun fuel cs x hx hw => by
  obtain ⟨xs, n, _, hx, hcl, hlen, hg⟩ := DataW.trod_struct Tryz.underlying38 hx
  rw [kcCu] at hcl
  match cs, hcl, xs, hlen with
  | [c0, c1, c2], _, [y0, y1, y2], _ =>
    subst hx
    have hw' : ∀ m ∈ DataW.weightsEach Tryz.prog [3, 9, 9] [y0.1, y1.1, y2.1], m ≤ 140737488351232 := fun m hm => hw m (by simpa [DataW.weights, Tryz.underlying38] using hm)
    have g0 := hg 0 _ rfl
    have g1 := hg 1 _ rfl
    have g2 := hg 2 _ rfl
    simp [kcC3, kcC9] at g0 g1 g2
    obtain ⟨a0, e0, f0⟩ := opn_int Tryz.underlying3 _ _ _ g0 (fun m hm => hw' m (weights_fst m hm))
    obtain rfl := List.cons.inj e0 |>.1
    obtain ⟨a1, e1, f1⟩ := opn_string Tryz.underlying9 _ _ _ g1 (fun m hm => hw' m (weights_rest m (weights_fst m hm)))
    obtain rfl := List.cons.inj e1 |>.1
    obtain ⟨a2, e2, f2⟩ := opn_string Tryz.underlying9 _ _ _ g2 (fun m hm => hw' m (weights_rest m (weights_rest m (weights_fst m hm))))
    obtain rfl := List.cons.inj e2 |>.1
    exact ⟨⟨a0, a1, a2⟩, k91_mk w ⟨a0, a1, a2⟩, ⟨f0, f1, f2⟩⟩
theorem opn_customs : Opn enc Tryz.prog w base spare held 22 (Kd.slice 38 k91) (fun l => l.length * 40 ≤ 140737488351232 ∧ ∀ y ∈ l, fineCu y) := opn_slice (k := k91) Tryz.underlying22 (by kernel_rfl) (B := 40) (by kernel_rfl) opn_rCustom
end
theorem cus_at {w : World} {A : Option Addr} {xs : List S91} (h : Kd.C k91 w A xs.length xs) : CusAt w A xs := fun i hi => by
  obtain ⟨ad, e, h0, h1, h2⟩ := at_T91 h (i : Int) (by omega) (by omega)
  have er : rd_T91 xs (i : Int) = xs[i] := by simp [rd_T91, List.getD_eq_getElem?_getD, List.getElem?_eq_getElem hi]
  rw [Int.toNat_natCast] at h0 h1 h2
  rw [er] at h0 h1 h2
  exact ⟨ad, e, h0, h1, h2⟩
end Go.Proofs.YtiohiiekaofkbaaGreatDoor
