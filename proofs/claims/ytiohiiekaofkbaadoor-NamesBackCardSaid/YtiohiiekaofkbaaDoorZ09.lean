/- Texts of this claim, as far as they are used here: R3, U3, U4, U4s1, U4s2, U4s3, U4s4, U5, U6, R4. -/
import Derived.Test.YtiohiiekaofkbaaDoorZ08
import Derived.Test.YtiohiiekaofkbaaDoorZ02
/- The bytes of names as the reference puts them: dobbyref14.Put. -/
namespace Go.Proofs.YtiohiiekaofkbaaDoor
set_option linter.unusedVariables false
set_option linter.unusedSimpArgs false
open Go.RowKit Go.Proofs.YtiohiiekaofkbaaDoor.PNamesBack Go.Proofs.YtiohiiekaofkbaaDoorW.PrintWords
def rBoxN (g : Nat) (b1 b2 b3 : Bool) (m : ByteArray) (vf vl : Value) (W : World) : Prop := W.cell? ⟨g, 0, none⟩ = some (.bool b1) ∧ W.cell? ⟨g, 1, none⟩ = some (.bool b2) ∧ W.cell? ⟨g, 2, none⟩ = some (.bool b3) ∧ W.cell? ⟨g, 3, none⟩ = some (.string m) ∧ W.cell? ⟨g, 4, none⟩ = some vf ∧ W.cell? ⟨g, 5, none⟩ = some vl
theorem rBoxN.new (w : World) (b1 b2 b3 : Bool) (m : ByteArray) (vf vl : Value) (T : Nat) : rBoxN w.heap.size b1 b2 b3 m vf vl (w.alloc (.cells #[.bool b1, .bool b2, .bool b3, .string m, vf, vl] T)) := by
  refine ⟨?_, ?_, ?_, ?_, ?_, ?_⟩ <;> simp [World.cell?_alloc_new]
theorem rBoxN.below {g : Nat} {b1 b2 b3 : Bool} {m : ByteArray} {vf vl : Value} {W W' : World} (h : rBoxN g b1 b2 b3 m vf vl W) (hb : Below W.heap.size W W') : rBoxN g b1 b2 b3 m vf vl W' := by
  obtain ⟨h1, h2, h3, h4, h5, h6⟩ := h
  exact ⟨pw_cell_below hb h1, pw_cell_below hb h2, pw_cell_below hb h3, pw_cell_below hb h4, pw_cell_below hb h5, pw_cell_below hb h6⟩
theorem keepH4 {p1 p2 p3 : Addr} {a b c : Value} {w W W' : World} {B : Nat} (h : W.cell? p1 = some a ∧ W.cell? p2 = some b ∧ W.cell? p3 = some c ∧ Below B w W ∧ B ≤ W.heap.size) (hb : Below W.heap.size W W') : W'.cell? p1 = some a ∧ W'.cell? p2 = some b ∧ W'.cell? p3 = some c ∧ Below B w W' ∧ B ≤ W'.heap.size :=
  ⟨pw_cell_below hb h.1, pw_cell_below hb h.2.1, pw_cell_below hb h.2.2.1, h.2.2.2.1.trans (hb.mono h.2.2.2.2), Nat.le_trans h.2.2.2.2 hb.size⟩
def rNs.fits (x : rNs) (m : Int) : Prop := (txtM x.md m).length ≤ 100000000 ∧ (rlB x.fs m).length ≤ 100000000 ∧ (rllB x.ls m).length ≤ 100000000
theorem bytesOf_str' (l : List Int) : (bytesOf (strOfNums l)).length = l.length := by rw [bytesOf_length, strOfNums_size]
theorem txtM_str {l : List Int} (m : Int) : strOfNums (txtM (strOfNums l) m) = strOfNums (numB l.length m ++ l) := by
  rw [txtM, strOfNums_size, ← str_app, str_bytes, str_app]
theorem out1 (i m : Int) (l : List Int) (acc : List Int) (c : ByteArray) (hc : c = strOfNums [i]) : (strOfNums acc ++ c) ++ strOfNums (txtM (strOfNums l) m) = strOfNums (acc ++ secM i m l) := by
  subst hc; rw [txtM_str, str_app, str_app]; simp [secM]
set_option maxRecDepth 100000 in
set_option maxHeartbeats 8000000 in
theorem rput_walk (x : rNs) (A : Option Addr) (c : Nat) (B : Option Addr) (d : Nat) (m : Int) (w : World) (hx : x.at A c B d w) (hs : x.small) (hf : x.fits m) (hm : 0 ≤ m) (hm2 : m ≤ 10) :
    Calls Tryd.prog 9 #[.agg #[.bool x.hm, .bool x.hf, .bool x.hl, .string x.md, .slice A x.fs.length c, .slice B x.ls.length d], .int .i64 m] w fun e w' => e = .returned (.string (strOfNums (rputB x m))) ∧ Below w.heap.size w w' := by
  have hu := Tryd.underlying25
  have hu2 := Tryd.underlying103
  obtain ⟨b1, b2, b3, md, f, l⟩ := x
  dsimp only
  have XL : Hid (Kd.C k103 w B l.length l) := hx.2.2.1
  have XF : Hid (Kd.C k101 w A f.length f) := hx.1
  have XC : f.length ≤ c := hx.2.1
  have SM : md.size ≤ 1000000 := hs.1
  have SF : f.length ≤ 1000000 := hs.2.1
  have SL : l.length ≤ 1000000 := hs.2.2.1
  have UF : Hid (rU32s f) := hs.2.2.2.1
  have UL : Hid (rU32l l) := hs.2.2.2.2
  have LM : (txtM md m).length ≤ 100000000 := hf.1
  have LF : (rlB f m).length ≤ 100000000 := hf.2.1
  have LL : (rllB l m).length ≤ 100000000 := hf.2.2
  clear hx hs hf
  obtain ⟨P1, hP1⟩ : ∃ P, P = (if b1 then secM 0 m (txtM md m) else []) := ⟨_, rfl⟩
  obtain ⟨P2, hP2⟩ : ∃ P, P = P1 ++ (if b2 then secM 1 m (rlB f m) else []) := ⟨_, rfl⟩
  have hPe : rputB ⟨b1, b2, b3, md, f, l⟩ m = P2 ++ (if b3 then secM 2 m (rllB l m) else []) := by rw [hP2, hP1]; rfl
  have L1 : P1.length ≤ 100000010 := by
    rw [hP1]; split
    · have := numB_len (v := (txtM md m).length) (m := m) (by omega) (by omega) hm; simp only [secM, List.length_cons, List.length_append]; omega
    · simp
  have L2 : P2.length ≤ 200000020 := by
    rw [hP2, List.length_append]; split
    · have := numB_len (v := (rlB f m).length) (m := m) (by omega) (by omega) hm; simp only [secM, List.length_cons, List.length_append]; omega
    · simp; omega
  have HPE := hid hPe
  have HP1 := hid hP1
  have HP2 := hid hP2
  clear hPe hP1 hP2
  go_enter Tryd.func9, Tryd.ntmps9
  go_upto_region 2 with (fail)
  obtain ⟨w0, hw0⟩ : ∃ w0, w0 = w.alloc (.cells #[.bool b1, .bool b2, .bool b3, .string md, .slice A f.length c, .slice B l.length d] 25) := ⟨_, rfl⟩
  have KN := hid (show rBoxN w.heap.size b1 b2 b3 md (.slice A f.length c) (.slice B l.length d) w0 by rw [hw0]; exact rBoxN.new _ _ _ _ _ _ _ _)
  have KB := hid (show Below w.heap.size w w0 by rw [hw0]; exact below_alloc (Below.refl _ _) _)
  have kz : w.heap.size < w0.heap.size := by rw [hw0]; simp
  rw [← hw0]
  clear hw0
  have k0 := KN.out.1
  go_upto_if 9 with (fail)
  go_cut [5] (fun s5 wx => s5 = .string (strOfNums P1) ∧ Hid (rBoxN w.heap.size b1 b2 b3 md (.slice A f.length c) (.slice B l.length d) wx) ∧ w.heap.size < wx.heap.size ∧ Hid (Below w.heap.size w wx))
  case first =>
    have k3 := KN.out.2.2.2.1
    have HV1 := hid (fun W => putVals_walk md m W (by omega) hm hm2)
    have HV2 := hid (fun W => putVals_walk (strOfNums (txtM md m)) m W (by rw [strOfNums_size]; omega) hm hm2)
    cases b1 with
    | false =>
      go_wp2
      go_meet
      exact ⟨by rw [HP1.out]; rfl, KN, kz, KB⟩
    | true =>
      have hlen := numB_len (v := (txtM md m).length) (m := m) (by omega) (by omega) hm
      have hsz : (strOfNums (txtM (strOfNums (txtM md m)) m)).size ≤ 9223372036854775806 := by rw [strOfNums_size, txtM, List.length_append, bytesOf_str', strOfNums_size]; omega
      go_wp2_with (first | (go_at_call 35; (with_reducible refine (HV1.out _).mono ?_); rintro e w1 ⟨rfl, hb1⟩) | (go_at_call 35; (with_reducible refine (HV2.out _).mono ?_); rintro e w2 ⟨rfl, hb2⟩))
      go_meet
      refine ⟨?_, hid ((KN.out.below hb1).below hb2), by have := hb1.size; have := hb2.size; omega, hid ((KB.out.trans (hb1.mono KB.out.size)).trans (hb2.mono (by have := hb1.size; have := KB.out.size; omega)))⟩
      have hP : P1 = secM 0 m (txtM md m) := by simpa using HP1.out
      have ho := out1 0 m (txtM md m) [] ⟨#[0]⟩ rfl
      rw [show strOfNums ([] : List Int) = ⟨#[]⟩ from rfl] at ho
      have h0 : (⟨#[]⟩ : ByteArray) ++ (⟨#[0]⟩ : ByteArray) = ⟨#[0]⟩ := rfl
      rw [h0] at ho
      rw [ho, hP]; rfl
  case rest =>
    obtain ⟨rfl, KN2, kz2, KB2⟩ := hcut
    clear KN KB kz k0
    have k1 := KN2.out.2.1
    go_upto_if 18 with (fail)
    go_cut [5] (fun s5 wx => s5 = .string (strOfNums P2) ∧ Hid (rBoxN w.heap.size b1 b2 b3 md (.slice A f.length c) (.slice B l.length d) wx) ∧ w.heap.size < wx.heap.size ∧ Hid (Below w.heap.size w wx))
    case first =>
      have k4 := KN2.out.2.2.2.2.1
      cases b2 with
      | false =>
        go_wp2
        go_meet
        exact ⟨by have := HP2.out; simp at this; rw [this], KN2, kz2, KB2⟩
      | true =>
        have HLI := hid (rputList_walk A c f m wc (Kd.C_below XF.out KB2.out) SF UF.out hm hm2 (by omega))
        have HV2 := hid (fun W => putVals_walk (strOfNums (rlB f m)) m W (by rw [strOfNums_size]; omega) hm hm2)
        have hlen := numB_len (v := (rlB f m).length) (m := m) (by omega) (by omega) hm
        have hs0 : (strOfNums P1).size + 1 ≤ 9223372036854775807 := by rw [strOfNums_size]; omega
        have hs1 : (strOfNums P1).size + 1 + (strOfNums (txtM (strOfNums (rlB f m)) m)).size ≤ 9223372036854775807 := by rw [strOfNums_size, strOfNums_size, txtM, List.length_append, bytesOf_str', strOfNums_size]; omega
        have h1s : (⟨#[1]⟩ : ByteArray).size = 1 := rfl
        have hs2 : ((strOfNums P1) ++ (⟨#[1]⟩ : ByteArray)).size + (strOfNums (txtM (strOfNums (rlB f m)) m)).size ≤ 9223372036854775807 := by rw [ByteArray.size_append, h1s]; exact hs1
        clear h1s
        go_wp2_with (first | (go_at_call 60; (with_reducible refine HLI.out.mono ?_); rintro e w1 ⟨rfl, hb1⟩) | (go_at_call 35; (with_reducible refine (HV2.out _).mono ?_); rintro e w2 ⟨rfl, hb2⟩))
        go_meet
        refine ⟨?_, hid ((KN2.out.below hb1).below hb2), by have := hb1.size; have := hb2.size; omega, hid ((KB2.out.trans (hb1.mono KB2.out.size)).trans (hb2.mono (by have := hb1.size; have := KB2.out.size; omega)))⟩
        have hP : P2 = P1 ++ secM 1 m (rlB f m) := by simpa using HP2.out
        rw [out1 1 m (rlB f m) P1 ⟨#[1]⟩ rfl, hP]
    case rest =>
      obtain ⟨rfl, KN, kz, KB⟩ := hcut
      clear KN2 KB2 kz2 k1
      have k2 := KN.out.2.2.1
      cases b3 with
      | false =>
        have HE := hid (show strOfNums P2 = strOfNums (rputB ⟨b1, b2, false, md, f, l⟩ m) by rw [HPE.out]; simp)
        go_wp2
        go_ret
        exact ⟨congrArg (fun x => Ending.returned (.string x)) HE.out, KB.out⟩
      | true =>
        have k5 := KN.out.2.2.2.2.2
        have h0 : (0 : Int) ≤ l.length := by omega
        have h1 : (l.length : Int) ≤ 4294967295 := by omega
        have HN := hid (fun W => num_walk l.length m W h0 h1 hm hm2)
        obtain ⟨w1, rfl⟩ : ∃ w1, w1 = wc := ⟨_, rfl⟩
        go_upto_region 9 with (first | (go_at_call 61; (with_reducible refine (HN.out _).mono ?_); rintro e w2 ⟨rfl, hb1⟩))
        have KN2 := hid (KN.out.below hb1)
        have KB2 := hid (KB.out.trans (hb1.mono KB.out.size))
        have kz2 : w.heap.size < w2.heap.size := Nat.lt_of_lt_of_le kz hb1.size
        clear KN KB kz hb1 k2 k5 HN
        go_loopw [6, 7] (fun v6 v7 wr => ∃ i : Nat, v7 = .int .i64 i ∧ v6 = .string (strOfNums (numB l.length m ++ rlosB m (l.take i))) ∧ i ≤ l.length ∧ Hid (rBoxN w.heap.size b1 b2 true md (.slice A f.length c) (.slice B l.length d) wr) ∧ w.heap.size < wr.heap.size ∧ Hid (Below w.heap.size w wr)) (fun _ v7 _ => l.length - (intOf v7).toNat)
        case atStart => exact ⟨0, by go_num, by simp [rlosB], by omega, KN2, kz2, KB2⟩
        case round =>
          obtain ⟨i, rfl, rfl, hi1, KN, hz, HB⟩ := hrel
          clear KN2 KB2 kz2
          have k5 := KN.out.2.2.2.2.2
          by_cases hlt : i < l.length
          · have hcr := Kd.C_below XL.out HB.out
            obtain ⟨ad, A1, c1, rfl, e1, e2, l1, g1⟩ := at_T103 hcr (i : Int) (by omega) (by omega)
            rw [Int.toNat_natCast] at e1 e2
            have hgi := rd_rLocal l i hlt
            obtain ⟨u0, u1, u2, u3⟩ : 0 ≤ (rd_T103 l i).f0 ∧ (rd_T103 l i).f0 ≤ 4294967295 ∧ rU32s (rd_T103 l i).f1 ∧ (rd_T103 l i).f1.length ≤ 1000000 := by rw [hgi]; exact UL.out _ (List.getElem_mem hlt)
            have hlen : (numB l.length m ++ rlosB m (l.take i)).length + ((numB (rd_T103 l i).f0 m).length + (rlB (rd_T103 l i).f1 m).length) ≤ 100000000 := by
              have q1 := LL
              have q2 := rlosB_le m l (i + 1)
              rw [rlosB_take m l i hlt, ← hgi] at q2
              simp only [rllB, rloB, List.length_append] at q1 q2 ⊢
              omega
            have hs1 : (strOfNums (numB l.length m ++ rlosB m (l.take i))).size + (strOfNums (numB (rd_T103 l i).f0 m)).size ≤ 9223372036854775807 := by rw [strOfNums_size, strOfNums_size]; omega
            have hs2 : (strOfNums (numB l.length m ++ rlosB m (l.take i))).size + (strOfNums (numB (rd_T103 l i).f0 m)).size + (strOfNums (rlB (rd_T103 l i).f1 m)).size ≤ 9223372036854775807 := by rw [strOfNums_size, strOfNums_size, strOfNums_size]; omega
            have HNi := hid (fun W => num_walk (rd_T103 l i).f0 m W u0 u1 hm hm2)
            have HTi := hid (fun W (h : Below wr.heap.size wr W) => rputList_walk A1 c1 (rd_T103 l i).f1 m W (Kd.C_below g1 h) u3 u2 hm hm2 (by omega))
            have HG := hid hgi
            have hi3 : (i : Int) < (l.length : Int) := by omega
            have S0 : wr.cell? ⟨w.heap.size, 5, none⟩ = some (.slice (some ad) l.length d) ∧ wr.cell? (ad.add (i * 2)) = some (.int .u32 (rd_T103 l i).f0) ∧ wr.cell? ⟨(ad.add (i * 2)).block, (ad.add (i * 2)).off + 1, none⟩ = some (.slice A1 (rd_T103 l i).f1.length c1) ∧ Below wr.heap.size wr wr ∧ wr.heap.size ≤ wr.heap.size := ⟨k5, e1, e2, Below.refl _ _, Nat.le_refl _⟩
            clear hcr e1 e2 g1 u2 hgi hlen
            go_upto_region 11 with (fail)
            clear k5
            refine wp_region_noPanic ?_
            refine wp_region_held_drew (S := (fun W => W.cell? ⟨w.heap.size, 5, none⟩ = some (.slice (some ad) l.length d) ∧ W.cell? (ad.add (i * 2)) = some (.int .u32 (rd_T103 l i).f0) ∧ W.cell? ⟨(ad.add (i * 2)).block, (ad.add (i * 2)).off + 1, none⟩ = some (.slice A1 (rd_T103 l i).f1.length c1) ∧ Below wr.heap.size wr W ∧ wr.heap.size ≤ W.heap.size)) (by kernel_rfl) ?hSr1 (fun hHeld => ?gor1)
            case hSr1 => first | exact S0 | assumption | exact keepH4 (by assumption) (by assumption) | exact keepH4 S0 (below_drew (Below.refl _ _))
            refine tk 0 ⟨some 43, .move (.tmp 6), 9, "ref.go:106", #[], none⟩ rfl ?_
            refine tk 1 ⟨some 44, .fieldAddr 25 (.tmp 2) 5, 0, "ref.go:106", #[], none⟩ rfl ?_
            refine tk 2 ⟨some 45, .load 23 (.tmp 44), 23, "ref.go:106", #[⟨1, .data⟩], none⟩ rfl ?_
            refine tk 3 ⟨some 46, .move (.tmp 7), 3, "ref.go:106", #[], none⟩ rfl ?_
            refine tk 4 ⟨some 47, .indexAddr 23 (.tmp 45) (.tmp 46), 0, "ref.go:106", #[⟨2, .data⟩, ⟨3, .data⟩], none⟩ rfl ?_
            refine tk 5 ⟨some 48, .fieldAddr 103 (.tmp 47) 0, 0, "ref.go:106", #[⟨4, .data⟩], none⟩ rfl ?_
            refine tk 6 ⟨some 49, .load 45 (.tmp 48), 45, "ref.go:106", #[⟨5, .data⟩], none⟩ rfl ?_
            refine tk 7 ⟨some 50, .move (.tmp 1), 3, "ref.go:106", #[], none⟩ rfl ?_
            refine tk 10 ⟨some 53, .fieldAddr 25 (.tmp 2) 5, 0, "ref.go:106", #[], none⟩ rfl ?_
            refine tk 11 ⟨some 54, .load 23 (.tmp 53), 23, "ref.go:106", #[⟨10, .data⟩], none⟩ rfl ?_
            refine tk 12 ⟨some 55, .move (.tmp 7), 3, "ref.go:106", #[], none⟩ rfl ?_
            refine tk 13 ⟨some 56, .indexAddr 23 (.tmp 54) (.tmp 55), 0, "ref.go:106", #[⟨11, .data⟩, ⟨12, .data⟩], none⟩ rfl ?_
            refine tk 14 ⟨some 57, .fieldAddr 103 (.tmp 56) 1, 0, "ref.go:106", #[⟨13, .data⟩], none⟩ rfl ?_
            refine tk 15 ⟨some 58, .load 22 (.tmp 57), 22, "ref.go:106", #[⟨14, .data⟩], none⟩ rfl ?_
            refine tk 16 ⟨some 59, .move (.tmp 1), 3, "ref.go:106", #[], none⟩ rfl ?_
            refine wpAnyH_ready (rs := [8]) (by kernel_rfl) (by simp) ?_
            refine AllReadyH.cons (o := ⟨some 51, .call { callee := .value (.func 61), args := #[.tmp 49, .tmp 50], argTypes := #[45, 3] }, 9, "ref.go:106", #[⟨6, .data⟩, ⟨7, .data⟩], none⟩) rfl (fun K hK => ?_) AllReadyH.nil
            go_simp
            go_at_call 61; (with_reducible refine (HNi.out _).mono ?_); rintro e w' ⟨rfl, hb1⟩
            refine hK.out _ _ ?_ (fun hHeld => ?_)
            · (try dsimp only); first | exact S0 | assumption | exact keepH4 (by assumption) (by assumption) | exact keepH4 S0 (below_drew (Below.refl _ _))
            clear hK K
            try simp only [Act.put, List.setIfInBounds_toArray, List.set_cons_zero, List.set_cons_succ]
            refine tk 9 ⟨some 52, .binOp .add 9 (.tmp 43) (.tmp 51) 9, 9, "ref.go:106", #[⟨0, .data⟩, ⟨8, .data⟩], none⟩ rfl ?_
            refine wpAnyH_ready (rs := [17]) (by kernel_rfl) (by simp) ?_
            refine AllReadyH.cons (o := ⟨some 60, .call { callee := .value (.func 60), args := #[.tmp 58, .tmp 59], argTypes := #[22, 3] }, 9, "ref.go:106", #[⟨15, .data⟩, ⟨16, .data⟩, ⟨8, .chain⟩], none⟩) rfl (fun K hK => ?_) AllReadyH.nil
            go_simp
            go_at_call 60; (with_reducible refine (HTi.out _ (‹_ ∧ _ ∧ _ ∧ Below wr.heap.size wr _ ∧ _›).2.2.2.1).mono ?_); rintro e w' ⟨rfl, hb1⟩
            refine hK.out _ _ ?_ (fun hHeld => ?_)
            · (try dsimp only); first | exact S0 | assumption | exact keepH4 (by assumption) (by assumption) | exact keepH4 S0 (below_drew (Below.refl _ _))
            clear hK K
            try simp only [Act.put, List.setIfInBounds_toArray, List.set_cons_zero, List.set_cons_succ]
            refine tk 18 ⟨some 61, .binOp .add 9 (.tmp 52) (.tmp 60) 9, 9, "ref.go:106", #[⟨9, .data⟩, ⟨17, .data⟩], none⟩ rfl ?_
            refine tk 19 ⟨some 6, .assign (.tmp 61), 9, "ref.go:106", #[⟨18, .data⟩, ⟨17, .chain⟩, ⟨0, .phase⟩, ⟨1, .phase⟩, ⟨2, .phase⟩, ⟨3, .phase⟩, ⟨4, .phase⟩, ⟨5, .phase⟩, ⟨6, .phase⟩, ⟨7, .phase⟩, ⟨8, .phase⟩, ⟨9, .phase⟩, ⟨10, .phase⟩, ⟨11, .phase⟩, ⟨12, .phase⟩, ⟨13, .phase⟩, ⟨14, .phase⟩, ⟨15, .phase⟩, ⟨16, .phase⟩, ⟨17, .phase⟩, ⟨18, .phase⟩], none⟩ rfl ?_
            refine wpAnyH_done (by kernel_rfl) ?_ _
            refine NoPanic.normal ?_
            all_goals (go_wp2_with fail)
            all_goals
              have hH := (‹_ ∧ _ ∧ _ ∧ Below wr.heap.size wr w' ∧ _›).2.2.2
              refine ⟨⟨i + 1, by go_num, ?_, by omega, hid (KN.out.below hH.1), by omega, hid (HB.out.trans (hH.1.mono HB.out.size))⟩, by simp [intOf]; omega⟩
              rw [rlosB_take m l i hlt, ← HG.out, str_app, str_app]; simp [rloB, List.append_assoc]
          · obtain rfl : i = l.length := by omega
            have hE : strOfNums (numB l.length m ++ rlosB m (l.take l.length)) = strOfNums (rllB l m) := by rw [List.take_length]; rfl
            rw [hE]
            clear hE
            have HV2 := hid (fun W => putVals_walk (strOfNums (rllB l m)) m W (by rw [strOfNums_size]; omega) hm hm2)
            have hlen := numB_len (v := (rllB l m).length) (m := m) (by omega) (by omega) hm
            have hs0 : (strOfNums P2).size + 1 ≤ 9223372036854775807 := by rw [strOfNums_size]; omega
            have hs1 : (strOfNums P2).size + 1 + (strOfNums (txtM (strOfNums (rllB l m)) m)).size ≤ 9223372036854775807 := by rw [strOfNums_size, strOfNums_size, txtM, List.length_append, bytesOf_str', strOfNums_size]; omega
            have hfin : strOfNums P2 ++ (⟨#[2]⟩ : ByteArray) ++ strOfNums (txtM (strOfNums (rllB l m)) m) = strOfNums (rputB ⟨b1, b2, true, md, f, l⟩ m) := by
              rw [out1 2 m (rllB l m) P2 ⟨#[2]⟩ rfl]
              have := HPE.out
              simp at this
              rw [this]
            have HE := hid hfin
            clear hfin
            go_wp2_with (first | (go_at_call 35; (with_reducible refine (HV2.out _).mono ?_); rintro e w3 ⟨rfl, hb2⟩))
            go_ret
            exact ⟨congrArg (fun x => Ending.returned (.string x)) HE.out, HB.out.trans (hb2.mono HB.out.size)⟩
end Go.Proofs.YtiohiiekaofkbaaDoor
/- The reference: is there a sign of a number; is there a number with so many groups more; does a sign begin so. -/
namespace Go.Proofs.YtiohiiekaofkbaaDoor
set_option linter.unusedVariables false
set_option linter.unusedSimpArgs false
open Go.RowKit
def isB (n : Int) : Bool := decide (0 ≤ n ∧ n ≤ 1114111 ∧ (n < 55296 ∨ 57343 < n))
set_option maxHeartbeats 1000000 in
theorem is_walk (n : Int) (w : World) : Calls Tryd.prog 168 #[.int .i64 n] w (fun e w' => e = .returned (.bool (isB n)) ∧ Below w.heap.size w w') := by
  go_enter Tryd.func168, Tryd.ntmps168
  go_wp2
  all_goals
    go_ret
    exact ⟨ret_bool (by rw [Bool.eq_iff_iff]; simp [isB, *] <;> omega), bel⟩
def anyB (n p least most : Int) : Bool :=
  decide ((if 55296 ≤ (if n * p < least then least else n * p) ∧ (if n * p < least then least else n * p) ≤ 57343 then 57344 else (if n * p < least then least else n * p)) ≤ (if most ≤ n * p + p - 1 then most - 1 else n * p + p - 1))
set_option maxRecDepth 100000 in
set_option maxHeartbeats 4000000 in
theorem any_walk (n g least most : Int) (w : World) (n0 : 0 ≤ n) (n1 : n ≤ 10000000) (g0 : 1 ≤ g) (g1 : g ≤ 3) (l0 : 0 ≤ least) (l1 : least ≤ 2000000) (m0 : 1 ≤ most) (m1 : most ≤ 2000000) :
    Calls Tryd.prog 167 #[.int .i64 n, .int .i64 g, .int .i64 least, .int .i64 most] w (fun e w' => e = .returned (.bool (anyB n (64 ^ g.toNat) least most)) ∧ Below w.heap.size w w') := by
  go_enter Tryd.func167, Tryd.ntmps167
  go_wp2
  go_loopw [9, 10, 11] (fun v9 v10 v11 wr => ∃ (i lo hi : Int), v9 = .int .i64 lo ∧ v10 = .int .i64 hi ∧ v11 = .int .i64 i ∧ i ≤ g ∧ ((i = 0 ∧ lo = n ∧ hi = n) ∨ (i = 1 ∧ lo = n * 64 ∧ hi = n * 64 + 63) ∨ (i = 2 ∧ lo = n * 4096 ∧ hi = n * 4096 + 4095) ∨ (i = 3 ∧ lo = n * 262144 ∧ hi = n * 262144 + 262143)) ∧ wr = w) (fun _ _ v11 _ => (g - intOf v11).toNat)
  case atStart => exact ⟨0, n, n, rfl, rfl, rfl, by omega, .inl ⟨rfl, rfl, rfl⟩, rfl⟩
  case round =>
    obtain ⟨i, lo, hi, rfl, rfl, rfl, hi3, hrel, rfl⟩ := hrel
    by_cases hig : i < g
    · have HR := hid hrel
      have i0 : 0 ≤ i := by omega
      have i2 : i ≤ 3 := by omega
      have b0 : 0 ≤ lo := by omega
      have b1 : lo ≤ 10000000 * 4096 := by omega
      have b2 : 0 ≤ hi := by omega
      have b3 : hi ≤ 10000000 * 4096 + 4095 := by omega
      clear hrel
      go_wp2
      refine ⟨⟨_, _, _, rfl, rfl, rfl, by omega, ?_, trivial⟩, by simp [intOf]; omega⟩
      have := HR.out
      omega
    · have hig2 : i = g := by omega
      have HR := hid (show lo = n * 64 ^ g.toNat ∧ hi = n * 64 ^ g.toNat + 64 ^ g.toNat - 1 by
        rcases hrel with ⟨e, e1, e2⟩ | ⟨e, e1, e2⟩ | ⟨e, e1, e2⟩ | ⟨e, e1, e2⟩
        · omega
        · rw [show g.toNat = 1 by omega]; omega
        · rw [show g.toNat = 2 by omega]; omega
        · rw [show g.toNat = 3 by omega]; omega)
      clear hrel hig2
      go_wp2
      all_goals
        go_ret
        refine ⟨ret_bool ?_, bel⟩
        simp only [anyB]
        rw [← HR.out.1, show lo + 64 ^ g.toNat - 1 = hi by have := HR.out.1; have := HR.out.2; omega, Bool.eq_iff_iff, decide_eq_true_iff, decide_eq_true_iff]
        by_cases c1 : lo < least
        · simp only [if_pos c1]
          by_cases c3 : 55296 ≤ least ∧ least ≤ 57343
          · simp only [if_pos c3]
            split <;> omega
          · simp only [if_neg c3]
            split <;> omega
        · simp only [if_neg c1]
          by_cases c3 : 55296 ≤ lo ∧ lo ≤ 57343
          · simp only [if_pos c3]
            split <;> omega
          · simp only [if_neg c3]
            split <;> omega
end Go.Proofs.YtiohiiekaofkbaaDoor
/- The reference: does a sign of so many bytes begin so? -/
namespace Go.Proofs.YtiohiiekaofkbaaDoor
set_option linter.unusedVariables false
set_option linter.unusedSimpArgs false
open Go.RowKit
def bl (least most : Int) : Nat → Int → List Int → Bool
  | 0, n, _ => decide (least ≤ n) && decide (n < most) && isB n
  | k + 1, n, [] => anyB n (64 ^ (k + 1)) least most
  | k + 1, n, x :: t => if x - 128 < 0 ∨ 63 < x - 128 then false else bl least most k (64 * n + (x - 128)) t
def begG (head room least most : Int) (k : Nat) : List Int → Bool
  | [] => false
  | a :: t => if a - head < 0 ∨ room ≤ a - head then false else bl least most k (a - head) t
def begT (size : Int) (l : List Int) : Bool :=
  if size = 1 then begG 0 128 0 128 0 l else if size = 2 then begG 192 32 128 2048 1 l else if size = 3 then begG 224 16 2048 65536 2 l else begG 240 8 65536 1114112 3 l
end Go.Proofs.YtiohiiekaofkbaaDoor
/- The reference: does a sign of 1 bytes begin so? -/
namespace Go.Proofs.YtiohiiekaofkbaaDoor
set_option linter.unusedVariables false
set_option linter.unusedSimpArgs false
open Go.RowKit
set_option maxRecDepth 100000 in
set_option maxHeartbeats 8000000 in
theorem begins_1 (s : ByteArray) (w : World) (hs : s.size ≤ 140737488351232) (hp : 0 < s.size) :
    Calls Tryd.prog 154 #[.string s, .int .i64 1] w (fun e w' => e = .returned (.bool (begG 0 128 0 128 0 (ns s))) ∧ Below w.heap.size w w') := by
  have hR : begG 0 128 0 128 0 (ns s) = if (s[0].toNat : Int) - 0 < 0 ∨ 128 ≤ (s[0].toNat : Int) - 0 then false else bl 0 128 0 ((s[0].toNat : Int) - 0) ((ns s).drop 1) := by
    have h1 := ns_drop s 0 hp
    simp only [List.drop_zero, Nat.zero_add] at h1
    have h2 := congrArg (begG 0 128 0 128 0) h1
    rw [h2]
    rfl
  have hb1 : ((s[0].toNat : Nat) : Int) < 256 := by have := s[0].toNat_lt; omega
  have hb0 : (0 : Int) ≤ (s[0].toNat : Int) := by omega
  rcases hR0 : begG 0 128 0 128 0 (ns s) with _ | _
  all_goals
    rw [hR0] at hR
    have HR := hid hR
    clear hR hR0
    go_enter Tryd.func154, Tryd.ntmps154
    rcases Int.lt_or_le ((s[0].toNat : Int) - 0) 0 with c1 | c1
    · first
        | (exfalso; omega)
        | (exfalso; have := HR.out; rw [if_pos (.inl c1)] at this; cases this; done)
        | (clear HR; go_wp2; go_ret; exact ⟨rfl, bel⟩)
    · rcases Int.lt_or_le ((s[0].toNat : Int) - 0) 128 with c2 | c2
      · have HB := hid (HR.out.trans (if_neg (show ¬ ((s[0].toNat : Int) - 0 < 0 ∨ 128 ≤ (s[0].toNat : Int) - 0) by omega))).symm
        clear HR
        go_wp2
        go_loop [9, 10] (fun v9 v10 => ∃ (j : Nat) (n : Int), v10 = .int .i64 j ∧ v9 = .int .i64 n ∧ 1 ≤ j ∧ j ≤ 1 ∧ j ≤ s.size ∧ 0 ≤ n ∧ ((j = 1 ∧ n < 128) ∨ (j = 2 ∧ n < 8192) ∨ (j = 3 ∧ n < 524288) ∨ (j = 4 ∧ n < 33554432)) ∧ Hid (bl 0 128 (1 - j) n ((ns s).drop j) = bl 0 128 0 ((s[0].toNat : Int) - 0) ((ns s).drop 1))) (fun _ v10 => (1 - intOf v10).toNat)
        case atStart => exact ⟨1, _, by go_num, rfl, by omega, by omega, hp, by omega, by omega, hid (by simp)⟩
        case round =>
          obtain ⟨j, n, rfl, rfl, j1, j2, j3, n0, hn, HJ⟩ := hrel
          have HJ2 := hid (HJ.out.trans HB.out)
          have nb : n < 33554432 := by omega
          by_cases hj : j < 1
          · exfalso; omega
          · have hj2 : j = 1 := by omega
            have HV := hid (show (decide (0 ≤ n) && decide (n < 128) && isB n) = bl 0 128 (1 - j) n ((ns s).drop j) by rw [hj2]; rfl)
            clear hn hj2
            go_wp2_with (first | (go_at_call 168; ((with_reducible refine (is_walk n _).mono ?_); rintro e w' ⟨rfl, hb⟩)))
            all_goals
              go_ret
              exact ⟨ret_bool (by first | (rw [← HJ2.out, ← HV.out]; done) | (rw [← HJ2.out, ← HV.out]; simp [*]; done) | (rw [← HJ2.out, ← HV.out]; simp [*]; intros; omega) | (rw [← HJ2.out, ← HV.out]; simp; intros; omega)), bel⟩
      · first
          | (exfalso; have := HR.out; rw [if_pos (.inr c2)] at this; cases this; done)
          | (clear HR; go_wp2; go_ret; exact ⟨rfl, bel⟩)
end Go.Proofs.YtiohiiekaofkbaaDoor
/- The reference: does a sign of 2 bytes begin so? -/
namespace Go.Proofs.YtiohiiekaofkbaaDoor
set_option linter.unusedVariables false
set_option linter.unusedSimpArgs false
open Go.RowKit
set_option maxRecDepth 100000 in
set_option maxHeartbeats 8000000 in
theorem begins_2 (s : ByteArray) (w : World) (hs : s.size ≤ 140737488351232) (hp : 0 < s.size) :
    Calls Tryd.prog 154 #[.string s, .int .i64 2] w (fun e w' => e = .returned (.bool (begG 192 32 128 2048 1 (ns s))) ∧ Below w.heap.size w w') := by
  have hR : begG 192 32 128 2048 1 (ns s) = if (s[0].toNat : Int) - 192 < 0 ∨ 32 ≤ (s[0].toNat : Int) - 192 then false else bl 128 2048 1 ((s[0].toNat : Int) - 192) ((ns s).drop 1) := by
    have h1 := ns_drop s 0 hp
    simp only [List.drop_zero, Nat.zero_add] at h1
    have h2 := congrArg (begG 192 32 128 2048 1) h1
    rw [h2]
    rfl
  have hb1 : ((s[0].toNat : Nat) : Int) < 256 := by have := s[0].toNat_lt; omega
  have hb0 : (0 : Int) ≤ (s[0].toNat : Int) := by omega
  rcases hR0 : begG 192 32 128 2048 1 (ns s) with _ | _
  all_goals
    rw [hR0] at hR
    have HR := hid hR
    clear hR hR0
    go_enter Tryd.func154, Tryd.ntmps154
    rcases Int.lt_or_le ((s[0].toNat : Int) - 192) 0 with c1 | c1
    · first
        | (exfalso; omega)
        | (exfalso; have := HR.out; rw [if_pos (.inl c1)] at this; cases this; done)
        | (clear HR; go_wp2; go_ret; exact ⟨rfl, bel⟩)
    · rcases Int.lt_or_le ((s[0].toNat : Int) - 192) 32 with c2 | c2
      · have HB := hid (HR.out.trans (if_neg (show ¬ ((s[0].toNat : Int) - 192 < 0 ∨ 32 ≤ (s[0].toNat : Int) - 192) by omega))).symm
        clear HR
        go_wp2
        go_loop [9, 10] (fun v9 v10 => ∃ (j : Nat) (n : Int), v10 = .int .i64 j ∧ v9 = .int .i64 n ∧ 1 ≤ j ∧ j ≤ 2 ∧ j ≤ s.size ∧ 0 ≤ n ∧ ((j = 1 ∧ n < 128) ∨ (j = 2 ∧ n < 8192) ∨ (j = 3 ∧ n < 524288) ∨ (j = 4 ∧ n < 33554432)) ∧ Hid (bl 128 2048 (2 - j) n ((ns s).drop j) = bl 128 2048 1 ((s[0].toNat : Int) - 192) ((ns s).drop 1))) (fun _ v10 => (2 - intOf v10).toNat)
        case atStart => exact ⟨1, _, by go_num, rfl, by omega, by omega, hp, by omega, by omega, hid (by simp)⟩
        case round =>
          obtain ⟨j, n, rfl, rfl, j1, j2, j3, n0, hn, HJ⟩ := hrel
          have HJ2 := hid (HJ.out.trans HB.out)
          have nb : n < 33554432 := by omega
          by_cases hj : j < 2
          · have nb2 : n ≤ 10000000 := by omega
            obtain ⟨k, hk⟩ : ∃ k, 2 - j = k + 1 := ⟨2 - j - 1, by omega⟩
            by_cases hjs : j < s.size
            · have hx0 : (0 : Int) ≤ (s[j].toNat : Int) := by omega
              have hx1 : ((s[j].toNat : Nat) : Int) < 256 := by have := s[j].toNat_lt; omega
              have HX := hid (show (if (s[j].toNat : Int) - 128 < 0 ∨ 63 < (s[j].toNat : Int) - 128 then false else bl 128 2048 k (64 * n + ((s[j].toNat : Int) - 128)) ((ns s).drop (j + 1))) = bl 128 2048 (2 - j) n ((ns s).drop j) by rw [hk, ns_drop s j hjs, bl])
              have HN := hid hn
              have HK := hid hk
              clear hn hk
              rcases Int.lt_or_le ((s[j].toNat : Int) - 128) 0 with d1 | d1
              · have HV := hid ((HX.out.trans HJ2.out).symm.trans (if_pos (.inl d1)))
                go_wp2
                all_goals go_ret
                all_goals exact ⟨ret_bool (by first | rfl | exact HV.out.symm), bel⟩
              · rcases Int.lt_or_le 63 ((s[j].toNat : Int) - 128) with d2 | d2
                · have HV := hid ((HX.out.trans HJ2.out).symm.trans (if_pos (.inr d2)))
                  go_wp2
                  all_goals go_ret
                  all_goals exact ⟨ret_bool (by first | rfl | exact HV.out.symm), bel⟩
                · have HV := hid ((if_neg (show ¬ ((s[j].toNat : Int) - 128 < 0 ∨ 63 < (s[j].toNat : Int) - 128) by omega)).symm.trans (HX.out.trans HJ.out))
                  go_wp2
                  refine ⟨⟨j + 1, _, by go_num, rfl, by omega, by omega, by omega, by omega, by have := HN.out; omega, hid ?_⟩, by simp [intOf]; omega⟩
                  rw [← HV.out]
                  congr 1
                  have := HK.out; omega
            · have HV := hid (show anyB n (64 ^ (k + 1)) 128 2048 = bl 128 2048 (2 - j) n ((ns s).drop j) by rw [hk, List.drop_eq_nil_of_le (by rw [ns_len]; omega), bl])
              have HE := hid (show ((2 : Int) - (j : Int)).toNat = k + 1 by omega)
              have HE2 := hid hk
              clear hn hk
              go_wp2_with (first | (go_at_call 167; ((with_reducible refine (any_walk n (2 - j) 128 2048 _ n0 nb2 (by omega) (by omega) (by omega) (by omega) (by omega) (by omega)).mono ?_); rintro e w' ⟨rfl, hb⟩)))
              go_ret
              exact ⟨ret_bool (by first | (rw [HE.out]; exact HV.out.trans HJ2.out) | (rw [HE2.out]; exact HV.out.trans HJ2.out)), bel⟩
          · have hj2 : j = 2 := by omega
            have HV := hid (show (decide (128 ≤ n) && decide (n < 2048) && isB n) = bl 128 2048 (2 - j) n ((ns s).drop j) by rw [hj2]; rfl)
            clear hn hj2
            go_wp2_with (first | (go_at_call 168; ((with_reducible refine (is_walk n _).mono ?_); rintro e w' ⟨rfl, hb⟩)))
            all_goals
              go_ret
              exact ⟨ret_bool (by first | (rw [← HJ2.out, ← HV.out]; done) | (rw [← HJ2.out, ← HV.out]; simp [*]; done) | (rw [← HJ2.out, ← HV.out]; simp [*]; intros; omega) | (rw [← HJ2.out, ← HV.out]; simp; intros; omega)), bel⟩
      · first
          | (exfalso; have := HR.out; rw [if_pos (.inr c2)] at this; cases this; done)
          | (clear HR; go_wp2; go_ret; exact ⟨rfl, bel⟩)
end Go.Proofs.YtiohiiekaofkbaaDoor
/- The reference: does a sign of 3 bytes begin so? -/
namespace Go.Proofs.YtiohiiekaofkbaaDoor
set_option linter.unusedVariables false
set_option linter.unusedSimpArgs false
open Go.RowKit
set_option maxRecDepth 100000 in
set_option maxHeartbeats 8000000 in
theorem begins_3 (s : ByteArray) (w : World) (hs : s.size ≤ 140737488351232) (hp : 0 < s.size) :
    Calls Tryd.prog 154 #[.string s, .int .i64 3] w (fun e w' => e = .returned (.bool (begG 224 16 2048 65536 2 (ns s))) ∧ Below w.heap.size w w') := by
  have hR : begG 224 16 2048 65536 2 (ns s) = if (s[0].toNat : Int) - 224 < 0 ∨ 16 ≤ (s[0].toNat : Int) - 224 then false else bl 2048 65536 2 ((s[0].toNat : Int) - 224) ((ns s).drop 1) := by
    have h1 := ns_drop s 0 hp
    simp only [List.drop_zero, Nat.zero_add] at h1
    have h2 := congrArg (begG 224 16 2048 65536 2) h1
    rw [h2]
    rfl
  have hb1 : ((s[0].toNat : Nat) : Int) < 256 := by have := s[0].toNat_lt; omega
  have hb0 : (0 : Int) ≤ (s[0].toNat : Int) := by omega
  rcases hR0 : begG 224 16 2048 65536 2 (ns s) with _ | _
  all_goals
    rw [hR0] at hR
    have HR := hid hR
    clear hR hR0
    go_enter Tryd.func154, Tryd.ntmps154
    rcases Int.lt_or_le ((s[0].toNat : Int) - 224) 0 with c1 | c1
    · first
        | (exfalso; omega)
        | (exfalso; have := HR.out; rw [if_pos (.inl c1)] at this; cases this; done)
        | (clear HR; go_wp2; go_ret; exact ⟨rfl, bel⟩)
    · rcases Int.lt_or_le ((s[0].toNat : Int) - 224) 16 with c2 | c2
      · have HB := hid (HR.out.trans (if_neg (show ¬ ((s[0].toNat : Int) - 224 < 0 ∨ 16 ≤ (s[0].toNat : Int) - 224) by omega))).symm
        clear HR
        go_wp2
        go_loop [9, 10] (fun v9 v10 => ∃ (j : Nat) (n : Int), v10 = .int .i64 j ∧ v9 = .int .i64 n ∧ 1 ≤ j ∧ j ≤ 3 ∧ j ≤ s.size ∧ 0 ≤ n ∧ ((j = 1 ∧ n < 128) ∨ (j = 2 ∧ n < 8192) ∨ (j = 3 ∧ n < 524288) ∨ (j = 4 ∧ n < 33554432)) ∧ Hid (bl 2048 65536 (3 - j) n ((ns s).drop j) = bl 2048 65536 2 ((s[0].toNat : Int) - 224) ((ns s).drop 1))) (fun _ v10 => (3 - intOf v10).toNat)
        case atStart => exact ⟨1, _, by go_num, rfl, by omega, by omega, hp, by omega, by omega, hid (by simp)⟩
        case round =>
          obtain ⟨j, n, rfl, rfl, j1, j2, j3, n0, hn, HJ⟩ := hrel
          have HJ2 := hid (HJ.out.trans HB.out)
          have nb : n < 33554432 := by omega
          by_cases hj : j < 3
          · have nb2 : n ≤ 10000000 := by omega
            obtain ⟨k, hk⟩ : ∃ k, 3 - j = k + 1 := ⟨3 - j - 1, by omega⟩
            by_cases hjs : j < s.size
            · have hx0 : (0 : Int) ≤ (s[j].toNat : Int) := by omega
              have hx1 : ((s[j].toNat : Nat) : Int) < 256 := by have := s[j].toNat_lt; omega
              have HX := hid (show (if (s[j].toNat : Int) - 128 < 0 ∨ 63 < (s[j].toNat : Int) - 128 then false else bl 2048 65536 k (64 * n + ((s[j].toNat : Int) - 128)) ((ns s).drop (j + 1))) = bl 2048 65536 (3 - j) n ((ns s).drop j) by rw [hk, ns_drop s j hjs, bl])
              have HN := hid hn
              have HK := hid hk
              clear hn hk
              rcases Int.lt_or_le ((s[j].toNat : Int) - 128) 0 with d1 | d1
              · have HV := hid ((HX.out.trans HJ2.out).symm.trans (if_pos (.inl d1)))
                go_wp2
                all_goals go_ret
                all_goals exact ⟨ret_bool (by first | rfl | exact HV.out.symm), bel⟩
              · rcases Int.lt_or_le 63 ((s[j].toNat : Int) - 128) with d2 | d2
                · have HV := hid ((HX.out.trans HJ2.out).symm.trans (if_pos (.inr d2)))
                  go_wp2
                  all_goals go_ret
                  all_goals exact ⟨ret_bool (by first | rfl | exact HV.out.symm), bel⟩
                · have HV := hid ((if_neg (show ¬ ((s[j].toNat : Int) - 128 < 0 ∨ 63 < (s[j].toNat : Int) - 128) by omega)).symm.trans (HX.out.trans HJ.out))
                  go_wp2
                  refine ⟨⟨j + 1, _, by go_num, rfl, by omega, by omega, by omega, by omega, by have := HN.out; omega, hid ?_⟩, by simp [intOf]; omega⟩
                  rw [← HV.out]
                  congr 1
                  have := HK.out; omega
            · have HV := hid (show anyB n (64 ^ (k + 1)) 2048 65536 = bl 2048 65536 (3 - j) n ((ns s).drop j) by rw [hk, List.drop_eq_nil_of_le (by rw [ns_len]; omega), bl])
              have HE := hid (show ((3 : Int) - (j : Int)).toNat = k + 1 by omega)
              have HE2 := hid hk
              clear hn hk
              go_wp2_with (first | (go_at_call 167; ((with_reducible refine (any_walk n (3 - j) 2048 65536 _ n0 nb2 (by omega) (by omega) (by omega) (by omega) (by omega) (by omega)).mono ?_); rintro e w' ⟨rfl, hb⟩)))
              go_ret
              exact ⟨ret_bool (by first | (rw [HE.out]; exact HV.out.trans HJ2.out) | (rw [HE2.out]; exact HV.out.trans HJ2.out)), bel⟩
          · have hj2 : j = 3 := by omega
            have HV := hid (show (decide (2048 ≤ n) && decide (n < 65536) && isB n) = bl 2048 65536 (3 - j) n ((ns s).drop j) by rw [hj2]; rfl)
            clear hn hj2
            go_wp2_with (first | (go_at_call 168; ((with_reducible refine (is_walk n _).mono ?_); rintro e w' ⟨rfl, hb⟩)))
            all_goals
              go_ret
              exact ⟨ret_bool (by first | (rw [← HJ2.out, ← HV.out]; done) | (rw [← HJ2.out, ← HV.out]; simp [*]; done) | (rw [← HJ2.out, ← HV.out]; simp [*]; intros; omega) | (rw [← HJ2.out, ← HV.out]; simp; intros; omega)), bel⟩
      · first
          | (exfalso; have := HR.out; rw [if_pos (.inr c2)] at this; cases this; done)
          | (clear HR; go_wp2; go_ret; exact ⟨rfl, bel⟩)
end Go.Proofs.YtiohiiekaofkbaaDoor
/- The reference: does a sign of 4 bytes begin so? -/
namespace Go.Proofs.YtiohiiekaofkbaaDoor
set_option linter.unusedVariables false
set_option linter.unusedSimpArgs false
open Go.RowKit
set_option maxRecDepth 100000 in
set_option maxHeartbeats 8000000 in
theorem begins_4 (s : ByteArray) (w : World) (hs : s.size ≤ 140737488351232) (hp : 0 < s.size) :
    Calls Tryd.prog 154 #[.string s, .int .i64 4] w (fun e w' => e = .returned (.bool (begG 240 8 65536 1114112 3 (ns s))) ∧ Below w.heap.size w w') := by
  have hR : begG 240 8 65536 1114112 3 (ns s) = if (s[0].toNat : Int) - 240 < 0 ∨ 8 ≤ (s[0].toNat : Int) - 240 then false else bl 65536 1114112 3 ((s[0].toNat : Int) - 240) ((ns s).drop 1) := by
    have h1 := ns_drop s 0 hp
    simp only [List.drop_zero, Nat.zero_add] at h1
    have h2 := congrArg (begG 240 8 65536 1114112 3) h1
    rw [h2]
    rfl
  have hb1 : ((s[0].toNat : Nat) : Int) < 256 := by have := s[0].toNat_lt; omega
  have hb0 : (0 : Int) ≤ (s[0].toNat : Int) := by omega
  rcases hR0 : begG 240 8 65536 1114112 3 (ns s) with _ | _
  all_goals
    rw [hR0] at hR
    have HR := hid hR
    clear hR hR0
    go_enter Tryd.func154, Tryd.ntmps154
    rcases Int.lt_or_le ((s[0].toNat : Int) - 240) 0 with c1 | c1
    · first
        | (exfalso; omega)
        | (exfalso; have := HR.out; rw [if_pos (.inl c1)] at this; cases this; done)
        | (clear HR; go_wp2; go_ret; exact ⟨rfl, bel⟩)
    · rcases Int.lt_or_le ((s[0].toNat : Int) - 240) 8 with c2 | c2
      · have HB := hid (HR.out.trans (if_neg (show ¬ ((s[0].toNat : Int) - 240 < 0 ∨ 8 ≤ (s[0].toNat : Int) - 240) by omega))).symm
        clear HR
        go_wp2
        go_loop [9, 10] (fun v9 v10 => ∃ (j : Nat) (n : Int), v10 = .int .i64 j ∧ v9 = .int .i64 n ∧ 1 ≤ j ∧ j ≤ 4 ∧ j ≤ s.size ∧ 0 ≤ n ∧ ((j = 1 ∧ n < 128) ∨ (j = 2 ∧ n < 8192) ∨ (j = 3 ∧ n < 524288) ∨ (j = 4 ∧ n < 33554432)) ∧ Hid (bl 65536 1114112 (4 - j) n ((ns s).drop j) = bl 65536 1114112 3 ((s[0].toNat : Int) - 240) ((ns s).drop 1))) (fun _ v10 => (4 - intOf v10).toNat)
        case atStart => exact ⟨1, _, by go_num, rfl, by omega, by omega, hp, by omega, by omega, hid (by simp)⟩
        case round =>
          obtain ⟨j, n, rfl, rfl, j1, j2, j3, n0, hn, HJ⟩ := hrel
          have HJ2 := hid (HJ.out.trans HB.out)
          have nb : n < 33554432 := by omega
          by_cases hj : j < 4
          · have nb2 : n ≤ 10000000 := by omega
            obtain ⟨k, hk⟩ : ∃ k, 4 - j = k + 1 := ⟨4 - j - 1, by omega⟩
            by_cases hjs : j < s.size
            · have hx0 : (0 : Int) ≤ (s[j].toNat : Int) := by omega
              have hx1 : ((s[j].toNat : Nat) : Int) < 256 := by have := s[j].toNat_lt; omega
              have HX := hid (show (if (s[j].toNat : Int) - 128 < 0 ∨ 63 < (s[j].toNat : Int) - 128 then false else bl 65536 1114112 k (64 * n + ((s[j].toNat : Int) - 128)) ((ns s).drop (j + 1))) = bl 65536 1114112 (4 - j) n ((ns s).drop j) by rw [hk, ns_drop s j hjs, bl])
              have HN := hid hn
              have HK := hid hk
              clear hn hk
              rcases Int.lt_or_le ((s[j].toNat : Int) - 128) 0 with d1 | d1
              · have HV := hid ((HX.out.trans HJ2.out).symm.trans (if_pos (.inl d1)))
                go_wp2
                all_goals go_ret
                all_goals exact ⟨ret_bool (by first | rfl | exact HV.out.symm), bel⟩
              · rcases Int.lt_or_le 63 ((s[j].toNat : Int) - 128) with d2 | d2
                · have HV := hid ((HX.out.trans HJ2.out).symm.trans (if_pos (.inr d2)))
                  go_wp2
                  all_goals go_ret
                  all_goals exact ⟨ret_bool (by first | rfl | exact HV.out.symm), bel⟩
                · have HV := hid ((if_neg (show ¬ ((s[j].toNat : Int) - 128 < 0 ∨ 63 < (s[j].toNat : Int) - 128) by omega)).symm.trans (HX.out.trans HJ.out))
                  go_wp2
                  refine ⟨⟨j + 1, _, by go_num, rfl, by omega, by omega, by omega, by omega, by have := HN.out; omega, hid ?_⟩, by simp [intOf]; omega⟩
                  rw [← HV.out]
                  congr 1
                  have := HK.out; omega
            · have HV := hid (show anyB n (64 ^ (k + 1)) 65536 1114112 = bl 65536 1114112 (4 - j) n ((ns s).drop j) by rw [hk, List.drop_eq_nil_of_le (by rw [ns_len]; omega), bl])
              have HE := hid (show ((4 : Int) - (j : Int)).toNat = k + 1 by omega)
              have HE2 := hid hk
              clear hn hk
              go_wp2_with (first | (go_at_call 167; ((with_reducible refine (any_walk n (4 - j) 65536 1114112 _ n0 nb2 (by omega) (by omega) (by omega) (by omega) (by omega) (by omega)).mono ?_); rintro e w' ⟨rfl, hb⟩)))
              go_ret
              exact ⟨ret_bool (by first | (rw [HE.out]; exact HV.out.trans HJ2.out) | (rw [HE2.out]; exact HV.out.trans HJ2.out)), bel⟩
          · have hj2 : j = 4 := by omega
            have HV := hid (show (decide (65536 ≤ n) && decide (n < 1114112) && isB n) = bl 65536 1114112 (4 - j) n ((ns s).drop j) by rw [hj2]; rfl)
            clear hn hj2
            go_wp2_with (first | (go_at_call 168; ((with_reducible refine (is_walk n _).mono ?_); rintro e w' ⟨rfl, hb⟩)))
            all_goals
              go_ret
              exact ⟨ret_bool (by first | (rw [← HJ2.out, ← HV.out]; done) | (rw [← HJ2.out, ← HV.out]; simp [*]; done) | (rw [← HJ2.out, ← HV.out]; simp [*]; intros; omega) | (rw [← HJ2.out, ← HV.out]; simp; intros; omega)), bel⟩
      · first
          | (exfalso; have := HR.out; rw [if_pos (.inr c2)] at this; cases this; done)
          | (clear HR; go_wp2; go_ret; exact ⟨rfl, bel⟩)
end Go.Proofs.YtiohiiekaofkbaaDoor
/- Plain law: a sign of so many bytes begins so just if the package's own way says it has or lacks just so many. -/
namespace Go.Proofs.YtiohiiekaofkbaaDoor
set_option linter.unusedVariables false
set_option linter.unusedSimpArgs false
open Go.RowKit
theorem begins_any (s : ByteArray) (z : Int) (w : World) (hs : s.size ≤ 140737488351232) (hp : 0 < s.size) (z0 : 1 ≤ z) (z1 : z ≤ 4) :
    Calls Tryd.prog 154 #[.string s, .int .i64 z] w (fun e w' => e = .returned (.bool (begT z (ns s))) ∧ Below w.heap.size w w') := by
  rcases (show z = 1 ∨ z = 2 ∨ z = 3 ∨ z = 4 by omega) with rfl | rfl | rfl | rfl
  · exact begins_1 s w hs hp
  · exact begins_2 s w hs hp
  · exact begins_3 s w hs hp
  · exact begins_4 s w hs hp
theorem sgnR_cons (b : Int) (t : List Int) : sgnR (b :: t) = if (leadR b).2.2.2 then sgnG (leadR b).1 (leadR b).2.1 (leadR b).2.2.1 1 t else (0, 0, false) := rfl
theorem any_iff (n p least most : Int) : anyB n p least most = true ↔
    (n * p < least ∧ ((¬ (55296 ≤ least ∧ least ≤ 57343) ∧ least ≤ n * p + p - 1 ∧ least ≤ most - 1) ∨ ((55296 ≤ least ∧ least ≤ 57343) ∧ 57344 ≤ n * p + p - 1 ∧ 57344 ≤ most - 1))) ∨
    (least ≤ n * p ∧ ((¬ (55296 ≤ n * p ∧ n * p ≤ 57343) ∧ n * p ≤ n * p + p - 1 ∧ n * p ≤ most - 1) ∨ ((55296 ≤ n * p ∧ n * p ≤ 57343) ∧ 57344 ≤ n * p + p - 1 ∧ 57344 ≤ most - 1))) := by
  simp only [anyB, decide_eq_true_iff]
  generalize n * p = q
  by_cases c1 : q < least
  · simp only [if_pos c1]
    by_cases c3 : 55296 ≤ least ∧ least ≤ 57343
    · simp only [if_pos c3]
      split <;> omega
    · simp only [if_neg c3]
      split <;> omega
  · simp only [if_neg c1]
    by_cases c3 : 55296 ≤ q ∧ q ≤ 57343
    · simp only [if_pos c3]
      split <;> omega
    · simp only [if_neg c3]
      split <;> omega
theorem begG_iff (head room least most : Int) (k : Nat) (a : Int) (t : List Int) : begG head room least most k (a :: t) = true ↔ head ≤ a ∧ a < head + room ∧ bl least most k (a - head) t = true := by
  simp only [begG]
  split
  · simp; omega
  · constructor
    · intro h; exact ⟨by omega, by omega, h⟩
    · intro h; exact h.2.2
theorem bl_zero (least most n : Int) (l : List Int) : bl least most 0 n l = true ↔ least ≤ n ∧ n < most ∧ 0 ≤ n ∧ n ≤ 1114111 ∧ (n < 55296 ∨ 57343 < n) := by
  cases l <;> simp [bl, isB, and_assoc]
theorem bl_nil (least most n : Int) (k : Nat) : bl least most (k + 1) n [] = anyB n (64 ^ (k + 1)) least most := rfl
theorem bl_cons (least most n : Int) (k : Nat) (x : Int) (t : List Int) : bl least most (k + 1) n (x :: t) = true ↔ 128 ≤ x ∧ x ≤ 191 ∧ bl least most k (64 * n + (x - 128)) t = true := by
  simp only [bl]
  split
  · simp; omega
  · constructor
    · intro h; exact ⟨by omega, by omega, h⟩
    · intro h; exact h.2.2
def SP (z : Int) (r : Int × Int × Bool) : Prop := r.2.2 = true ∧ r.1 + r.2.1 = z
theorem SP_nil (z m lo hi n : Int) : SP z (sgnG m lo hi n []) ↔ m + 1 = z := by simp [SP, sgnG]; omega
theorem SP_cons (z m lo hi n x : Int) (t : List Int) : SP z (sgnG m lo hi n (x :: t)) ↔ (m < n ∧ m + 1 = z) ∨ (n ≤ m ∧ ¬ (n = 1 ∧ (x < lo ∨ hi < x)) ∧ 128 ≤ x ∧ x < 192 ∧ SP z (sgnG m lo hi (n + 1) t)) := by
  simp only [sgnG]
  split
  · simp only [SP, true_and]; omega
  · split
    · constructor
      · intro h; simp [SP] at h
      · intro h; omega
    · constructor
      · intro h; exact .inr ⟨by omega, by omega, by omega, by omega, h⟩
      · intro h
        rcases h with h | h
        · omega
        · exact h.2.2.2.2
theorem SP_end (z m lo hi n : Int) (l : List Int) (h : m < n) : SP z (sgnG m lo hi n l) ↔ m + 1 = z := by
  cases l with
  | nil => exact SP_nil z m lo hi n
  | cons x t => rw [SP_cons]; omega
theorem SP_none (z : Int) : SP z (0, 0, false) ↔ False := by simp [SP]
set_option maxHeartbeats 4000000 in
theorem beg1 (l : List Int) (hl : ∀ x ∈ l, 0 ≤ x ∧ x < 256) : begG 0 128 0 128 0 l = true ↔ SP 1 (sgnR l) := by
  cases l with
  | nil => simp [begG, sgnR, SP]
  | cons b t =>
    have hb := hl b (by simp)
    rw [sgnR_cons, begG_iff]
    rcases lead_cases b with ⟨h, e⟩ | ⟨h, e⟩ | ⟨h, e⟩ | ⟨h, e⟩ | ⟨h, e⟩ | ⟨h, e⟩ | ⟨h, e⟩ | ⟨h, e⟩ | ⟨h, e⟩
    all_goals
      rw [e]
      simp only [if_true, Bool.false_eq_true, if_false]
      rcases t with _ | ⟨c, _ | ⟨d, _ | ⟨x, u⟩⟩⟩
      all_goals
        simp only [bl_zero, bl_nil, bl_cons, any_iff, SP_nil, SP_cons, SP_none]
        try rw [SP_end _ _ _ _ _ _ (by decide)]
        try simp only [true_and, iff_false]
        omega
set_option maxHeartbeats 4000000 in
theorem beg2 (l : List Int) (hl : ∀ x ∈ l, 0 ≤ x ∧ x < 256) : begG 192 32 128 2048 1 l = true ↔ SP 2 (sgnR l) := by
  cases l with
  | nil => simp [begG, sgnR, SP]
  | cons b t =>
    have hb := hl b (by simp)
    rw [sgnR_cons, begG_iff]
    rcases lead_cases b with ⟨h, e⟩ | ⟨h, e⟩ | ⟨h, e⟩ | ⟨h, e⟩ | ⟨h, e⟩ | ⟨h, e⟩ | ⟨h, e⟩ | ⟨h, e⟩ | ⟨h, e⟩
    all_goals
      rw [e]
      simp only [if_true, Bool.false_eq_true, if_false]
      rcases t with _ | ⟨c, _ | ⟨d, _ | ⟨x, u⟩⟩⟩
      all_goals
        simp only [bl_zero, bl_nil, bl_cons, any_iff, SP_nil, SP_cons, SP_none]
        try rw [SP_end _ _ _ _ _ _ (by decide)]
        try simp only [true_and, iff_false]
        omega
set_option maxHeartbeats 4000000 in
theorem beg3 (l : List Int) (hl : ∀ x ∈ l, 0 ≤ x ∧ x < 256) : begG 224 16 2048 65536 2 l = true ↔ SP 3 (sgnR l) := by
  cases l with
  | nil => simp [begG, sgnR, SP]
  | cons b t =>
    have hb := hl b (by simp)
    rw [sgnR_cons, begG_iff]
    rcases lead_cases b with ⟨h, e⟩ | ⟨h, e⟩ | ⟨h, e⟩ | ⟨h, e⟩ | ⟨h, e⟩ | ⟨h, e⟩ | ⟨h, e⟩ | ⟨h, e⟩ | ⟨h, e⟩
    all_goals
      rw [e]
      simp only [if_true, Bool.false_eq_true, if_false]
      rcases t with _ | ⟨c, _ | ⟨d, _ | ⟨x, u⟩⟩⟩
      all_goals
        simp only [bl_zero, bl_nil, bl_cons, any_iff, SP_nil, SP_cons, SP_none]
        try rw [SP_end _ _ _ _ _ _ (by decide)]
        try simp only [true_and, iff_false]
        omega
set_option maxHeartbeats 4000000 in
theorem beg4 (l : List Int) (hl : ∀ x ∈ l, 0 ≤ x ∧ x < 256) : begG 240 8 65536 1114112 3 l = true ↔ SP 4 (sgnR l) := by
  cases l with
  | nil => simp [begG, sgnR, SP]
  | cons b t =>
    have hb := hl b (by simp)
    rw [sgnR_cons, begG_iff]
    rcases lead_cases b with ⟨h, e⟩ | ⟨h, e⟩ | ⟨h, e⟩ | ⟨h, e⟩ | ⟨h, e⟩ | ⟨h, e⟩ | ⟨h, e⟩ | ⟨h, e⟩ | ⟨h, e⟩
    all_goals
      rw [e]
      simp only [if_true, Bool.false_eq_true, if_false]
      rcases t with _ | ⟨c, _ | ⟨d, _ | ⟨x, u⟩⟩⟩
      all_goals
        simp only [bl_zero, bl_nil, bl_cons, any_iff, SP_nil, SP_cons, SP_none]
        try rw [SP_end _ _ _ _ _ _ (by decide)]
        try simp only [true_and, iff_false]
        omega
end Go.Proofs.YtiohiiekaofkbaaDoor
/- The reference's Need: how many bytes there must be more. -/
namespace Go.Proofs.YtiohiiekaofkbaaDoor
set_option linter.unusedVariables false
set_option linter.unusedSimpArgs false
open Go.RowKit
theorem begT_iff (z : Int) (l : List Int) (hl : ∀ x ∈ l, 0 ≤ x ∧ x < 256) (z0 : 1 ≤ z) (z1 : z ≤ 4) : begT z l = true ↔ SP z (sgnR l) := by
  rcases (show z = 1 ∨ z = 2 ∨ z = 3 ∨ z = 4 by omega) with rfl | rfl | rfl | rfl
  · exact beg1 l hl
  · exact beg2 l hl
  · exact beg3 l hl
  · exact beg4 l hl
theorem sgnG_lacks (m lo hi : Int) (l : List Int) : ∀ n : Int, n ≤ m + 1 → (sgnG m lo hi n l).2.2 = true → 0 < (sgnG m lo hi n l).2.1 → (sgnG m lo hi n l).1 = n + l.length := by
  induction l with
  | nil => intro n h _ _; simp [sgnG]
  | cons x t ih =>
    intro n h ht hk
    simp only [sgnG] at ht hk ⊢
    split at ht
    · rename_i h1; rw [if_pos h1] at hk; simp at hk; omega
    · rename_i h1
      split at ht
      · simp at ht
      · rename_i h2
        rw [if_neg h1, if_neg h2] at hk
        rw [if_neg h1, if_neg h2, ih (n + 1) (by omega) ht hk]
        simp only [List.length_cons]
        push_cast
        omega
theorem sgnR_lacks (l : List Int) (h : (sgnR l).2.2 = true) (hk : 0 < (sgnR l).2.1) : (sgnR l).1 = l.length := by
  cases l with
  | nil => simp [sgnR] at h
  | cons b t =>
    have hl := leadR_le b
    simp only [sgnR] at h hk ⊢
    split at h
    · rename_i hb
      rw [if_pos hb] at hk
      rw [if_pos hb, sgnG_lacks _ _ _ t 1 (by omega) h hk]
      simp only [List.length_cons]
      push_cast
      omega
    · simp at h
theorem sgnR_sum (l : List Int) (h : (sgnR l).2.2 = true) : 1 ≤ (sgnR l).1 + (sgnR l).2.1 ∧ (sgnR l).1 + (sgnR l).2.1 ≤ 4 := by
  cases l with
  | nil => simp [sgnR] at h
  | cons b t =>
    have hl := leadR_le b
    simp only [sgnR] at h ⊢
    split at h
    · rename_i hb
      rw [if_pos hb]
      have := sgnG_le _ _ _ t 1 (by omega) h
      omega
    · simp at h
theorem begT_false {z : Int} {l : List Int} (hl : ∀ x ∈ l, 0 ≤ x ∧ x < 256) (z0 : 1 ≤ z) (z1 : z ≤ 4) (h : ¬ SP z (sgnR l)) : begT z l = false := by
  rcases hb : begT z l with _ | _
  · rfl
  · exact absurd ((begT_iff z l hl z0 z1).1 hb) h
set_option maxHeartbeats 8000000 in
theorem refNeed_walk (s : ByteArray) (w : World) (hs : s.size ≤ 1000000000) :
    Calls Tryd.prog 119 #[.string s] w (fun e w' => e = .returned (.tuple #[.int .i64 (need (ns s)).1, .bool (need (ns s)).2]) ∧ Below w.heap.size w w') := by
  go_enter Tryd.func119, Tryd.ntmps119
  go_wp2
  go_loopw [4] (fun v4 wr => ∃ (a f : Nat), v4 = .int .i64 a ∧ a ≤ s.size ∧ s.size - a ≤ f ∧ Hid (needF f ((ns s).drop a) = need (ns s)) ∧ w.heap.size ≤ wr.heap.size ∧ Hid (Below w.heap.size w wr)) (fun v4 _ => s.size - (intOf v4).toNat)
  case atStart => exact ⟨0, s.size, by go_num, by omega, by omega, hid (by unfold need; rw [ns_len]; rfl), Nat.le_refl _, Below.refl _ _⟩
  case round =>
    obtain ⟨a, f, rfl, ha, hf, HN, zr, KR⟩ := hrel
    by_cases hlt : a < s.size
    · obtain ⟨f, rfl⟩ : ∃ g, f = g + 1 := ⟨f - 1, by omega⟩
      obtain ⟨l, hl⟩ : ∃ l, (ns s).drop a = l := ⟨_, rfl⟩
      have hlen : l.length = s.size - a := by rw [← hl, List.length_drop, ns_len]
      have hby : ∀ x ∈ l, 0 ≤ x ∧ x < 256 := fun x hx => ns_byte s x (List.mem_of_mem_drop (by rw [hl]; exact hx))
      have hex : ns (s.extract a s.size) = l := by rw [ns_extract s a ha, hl]
      have hesz : (s.extract a s.size).size = s.size - a := by simp
      have HN2 := hid (show (if (sgnR l).2.2 = false ∨ 0 < (sgnR l).2.1 then ((sgnR l).2.1, (sgnR l).2.2) else needF f (l.drop (sgnR l).1.toNat)) = need (ns s) by
        have h2 := HN.out
        rw [hl, needF, if_neg (fun h => by rw [h] at hlen; simp at hlen; omega)] at h2
        exact h2)
      have HBG := hid (show ∀ (z : Int) (W : World), 1 ≤ z → z ≤ 4 → Calls Tryd.prog 154 #[.string (s.extract a s.size), .int .i64 z] W (fun e w' => e = .returned (.bool (begT z l)) ∧ Below W.heap.size W w') by
        intro z W z0 z1
        have := begins_any (s.extract a s.size) z W (by rw [hesz]; omega) (by rw [hesz]; omega) z0 z1
        rwa [hex] at this)
      have HBY := hid hby
      have hb := sgnR_bd l
      have hlk := sgnR_lacks l
      have hsum := sgnR_sum l
      have hng := sgnR_neg l
      have hnn : l.drop (sgnR l).1.toNat = (ns s).drop (a + (sgnR l).1.toNat) := by rw [← hl, List.drop_drop]
      rw [hnn] at HN2
      have HSPF := hid (fun (z : Int) (z0 : 1 ≤ z) (z1 : z ≤ 4) => @begT_false z l hby z0 z1)
      have HSPT := hid (fun (z : Int) (z0 : 1 ≤ z) (z1 : z ≤ 4) => begT_iff z l hby z0 z1)
      rcases hR : sgnR l with ⟨h, k, is⟩
      rw [hR] at HN2 hb hlk hsum hng HSPF HSPT
      simp only at HN2 hb hlk hsum hng
      rw [hlen] at hb hlk
      obtain ⟨hb0, hb1, hb2, hb3, hb4⟩ := hb
      have HEX := hid hex
      have HLN := hid hlen
      have HL := hid hl
      have HSZ := hid hesz
      clear hl hlen hby hex hesz hnn hR HN
      cases is with
      | false =>
        have HV := hid (show need (ns s) = (0, false) by rw [← HN2.out, if_pos (.inl rfl)]; have := hng rfl; simp at this; simp [this])
        have HF := hid (show ∀ z : Int, 1 ≤ z → z ≤ 4 → begT z l = false from fun z z0 z1 => HSPF.out z z0 z1 (by simp [SP]))
        clear hlk hsum hng
        obtain ⟨wo, rfl⟩ : ∃ wo : World, wo = wr := ⟨_, rfl⟩
        go_wp2
        go_loopw [4, 5, 6] (fun v4 v5 v6 wr => ∃ z : Int, v4 = .int .i64 a ∧ v5 = .bool false ∧ v6 = .int .i64 z ∧ 1 ≤ z ∧ z ≤ 5 ∧ w.heap.size ≤ wr.heap.size ∧ Hid (Below w.heap.size w wr)) (fun _ _ v6 _ => (5 - intOf v6).toNat)
        case atStart => exact ⟨1, rfl, rfl, rfl, by omega, by omega, zr, KR⟩
        case round =>
          obtain ⟨z, rfl, rfl, rfl, z0, z1, zw, KW⟩ := hrel
          by_cases hz : z ≤ 4
          · have HFZ := hid (HF.out z z0 hz)
            go_wp2_with (first | (go_at_call 154; ((with_reducible refine (HBG.out z _ z0 hz).mono ?_); rintro e w' ⟨rfl, hb⟩; rw [HFZ.out]; have k1 := (⟨KW.out.trans (hb.mono zw), Nat.le_trans zw hb.size⟩ : _ ∧ _); have zw2 := k1.2; have KW2 := hid k1.1; clear k1 hb)))
            go_roundw
            case rel => exact ⟨z + 1, rfl, rfl, rfl, by omega, by omega, zw2, KW2⟩
            case measure => simp [intOf]; omega
          · go_wp2
            refine bodyPost_ret (v := .tuple #[.int .i64 0, .bool false]) ?_ rfl ⟨by rw [HV.out], KW.out⟩
            simp [results, Tryd.results119, go_sem]
      | true =>
        obtain ⟨s0, s1⟩ := hsum rfl
        have hlk2 := hlk rfl
        clear hlk hsum hng
        have HT := hid (show begT (h + k) l = true from (HSPT.out (h + k) s0 s1).2 ⟨rfl, rfl⟩)
        have HF := hid (show ∀ z : Int, 1 ≤ z → z ≤ 4 → z ≠ h + k → begT z l = false from fun z z0 z1 hne => HSPF.out z z0 z1 (by simp [SP]; omega))
        obtain ⟨wo, rfl⟩ : ∃ wo : World, wo = wr := ⟨_, rfl⟩
        go_wp2
        go_loopw [4, 5, 6] (fun v4 v5 v6 wr => ∃ (z : Int) (fd : Bool), v4 = .int .i64 (if fd then (a : Int) + h else a) ∧ v5 = .bool fd ∧ v6 = .int .i64 z ∧ 1 ≤ z ∧ z ≤ 5 ∧ (fd = false → z ≤ h + k) ∧ (fd = true → k ≤ 0) ∧ w.heap.size ≤ wr.heap.size ∧ Hid (Below w.heap.size w wr)) (fun _ v5 v6 _ => (5 - intOf v6).toNat + (match v5 with | .bool true => 0 | _ => 1))
        case atStart => exact ⟨1, false, by simp, rfl, rfl, by omega, by omega, fun _ => s0, fun h => (by cases h), zr, KR⟩
        case round =>
          obtain ⟨z, fd, rfl, rfl, rfl, z0, z1, zf, zt, zw, KW⟩ := hrel
          cases fd with
          | true =>
            have hk0 := zt rfl
            clear zf zt
            have HV := hid (show needF f ((ns s).drop (a + h.toNat)) = need (ns s) by rw [← HN2.out, if_neg (by simp; omega)])
            obtain ⟨h', rfl⟩ : ∃ h' : Nat, h = h' := ⟨h.toNat, by omega⟩
            simp only [if_true]
            have HV2 := hid (show needF f ((ns s).drop (a + h')) = need (ns s) by have := HV.out; simpa using this)
            go_wp2
            all_goals
              refine ⟨⟨a + h', f, by go_num, by omega, by omega, HV2, zw, KW⟩, by simp [intOf]; omega⟩
          | false =>
            have zh := zf rfl
            clear zf zt
            simp only [Bool.false_eq_true, if_false]
            by_cases hz : z < h + k
            · have HFZ := hid (HF.out z z0 (by omega) (by omega))
              have hz4 : z ≤ 4 := by omega
              go_wp2_with (first | (go_at_call 154; ((with_reducible refine (HBG.out z _ z0 (by omega)).mono ?_); rintro e w' ⟨rfl, hb⟩; rw [HFZ.out]; have k1 := (⟨KW.out.trans (hb.mono zw), Nat.le_trans zw hb.size⟩ : _ ∧ _); have zw2 := k1.2; have KW2 := hid k1.1; clear k1 hb)))
              go_roundw
              case rel => exact ⟨z + 1, false, by simp, rfl, rfl, by omega, by omega, fun _ => by omega, fun h => (by cases h), zw2, KW2⟩
              case measure => simp [intOf]; omega
            · have hz2 : z = h + k := by omega
              have hz4 : z ≤ 4 := by omega
              have HTZ := hid (show begT z l = true by rw [hz2]; exact HT.out)
              by_cases hk : 0 < k
              · have hh := hlk2 hk
                have hgt : (s.size : Int) < (a : Int) + z := by omega
                have HVK := hid (show need (ns s) = ((a : Int) + z - (s.size : Int), true) by rw [← HN2.out, if_pos (.inr hk)]; congr 1; omega)
                clear hz hz2 hh hlk2 hk
                go_wp2_with (first | (go_at_call 154; ((with_reducible refine (HBG.out z _ z0 (by omega)).mono ?_); rintro e w' ⟨rfl, hb⟩; rw [HTZ.out]; have k1 := (⟨KW.out.trans (hb.mono zw), Nat.le_trans zw hb.size⟩ : _ ∧ _); have zw2 := k1.2; have KW2 := hid k1.1; clear k1 hb)))
                refine bodyPost_ret (v := .tuple #[.int .i64 ((a : Int) + z - (s.size : Int)), .bool true]) ?_ rfl ⟨by rw [HVK.out], KW2.out⟩
                simp [results, Tryd.results119, go_sem]
              · have hle : (a : Int) + z ≤ (s.size : Int) := by omega
                have HZH := hid (show z = h by omega)
                clear hz hz2 hlk2
                go_wp2_with (first | (go_at_call 154; ((with_reducible refine (HBG.out z _ z0 (by omega)).mono ?_); rintro e w' ⟨rfl, hb⟩; rw [HTZ.out]; have k1 := (⟨KW.out.trans (hb.mono zw), Nat.le_trans zw hb.size⟩ : _ ∧ _); have zw2 := k1.2; have KW2 := hid k1.1; clear k1 hb)))
                go_roundw
                case rel => exact ⟨z + 1, true, by rw [if_pos rfl, HZH.out], rfl, rfl, by omega, by omega, fun h => (by cases h), fun _ => by omega, zw2, KW2⟩
                case measure => simp [intOf]; omega
    · have hae : a = s.size := by omega
      have HV := hid (show need (ns s) = (0, true) by
        rw [← HN.out, List.drop_eq_nil_of_le (by rw [ns_len]; omega)]
        cases f <;> simp [needF])
      clear hae
      go_wp2
      refine bodyPost_ret (v := .tuple #[.int .i64 0, .bool true]) ?_ rfl ⟨by rw [HV.out], KR.out⟩
      simp [results, Tryd.results119, go_sem]
end Go.Proofs.YtiohiiekaofkbaaDoor
/- May names be, by the reference: dobbyref14.text, list. -/
namespace Go.Proofs.YtiohiiekaofkbaaDoor
set_option linter.unusedVariables false
set_option linter.unusedSimpArgs false
open Go.RowKit Go.Proofs.YtiohiiekaofkbaaDoor.PNamesBack Go.Proofs.YtiohiiekaofkbaaDoorW.PrintWords
set_option maxRecDepth 100000 in
set_option maxHeartbeats 1000000 in
theorem rtext_walk (s : ByteArray) (w : World) (hs : s.size ≤ 1000000000) : Calls Tryd.prog 58 #[.string s] w (fun e w' => e = .returned (.bool (vld s)) ∧ Below w.heap.size w w') := by
  have hn := refNeed_walk s w hs
  have hv : vld s = ((need (ns s)).2 && (need (ns s)).1 == 0) := rfl
  rcases hR : need (ns s) with ⟨k, is⟩
  rw [hR] at hn hv
  simp only at hn hv
  have HN := hid hn
  rw [hv]
  clear hn hv hR
  go_enter Tryd.func58, Tryd.ntmps58
  go_wp2_with (first | (go_at_call 119; ((with_reducible refine HN.out.mono ?_); rintro e w' ⟨rfl, hb1⟩)))
  all_goals
    go_ret
    refine ⟨ret_bool ?_, hb1⟩
    first | rfl | (simp [*]; done)
def rIdx (l : List S101) (i : Nat) : Int := (rd_T101 l i).f0
def rVld (l : List S101) (i : Nat) : Bool := vld (rd_T101 l i).f1
theorem rIdx_up (l : List S101) (j : Nat) : upB (rIdx l) (j + 1) = decide ((rd_T101 l (j : Int)).f0 < (rd_T101 l ((j : Int) + 1)).f0) := by unfold upB; rw [show decide (j + 1 = 0) = false from by simp, Bool.false_or]; rfl
def rGood (l : List S101) (i : Nat) : Bool := rVld l i && upB (rIdx l) i
def rnamed (l : List S101) : Bool := allB (rGood l) l.length
theorem add_nought (ad : Addr) : ad.add (0 * 2) = ad := by
  unfold Addr.add
  split <;> simp_all
set_option maxRecDepth 100000 in
set_option maxHeartbeats 8000000 in
theorem rlist_walk (A : Option Addr) (c : Nat) (l : List S101) (w : World) (hC : Kd.C k101 w A l.length l) (hl : l.length ≤ 1000000) (hU : rU32s l) :
    Calls Tryd.prog 59 #[.slice A l.length c] w (fun e w' => e = .returned (.bool (rnamed l)) ∧ Below w.heap.size w w') := by
  have hu := Tryd.underlying101
  have HC := hid hC
  have HU := hid hU
  clear hC hU
  go_enter Tryd.func59, Tryd.ntmps59
  go_wp2
  go_loopw [3] (fun v3 wr => ∃ i : Nat, v3 = .int .i64 i ∧ i ≤ l.length ∧ Hid (allB (rGood l) i = true) ∧ w.heap.size ≤ wr.heap.size ∧ Hid (Below w.heap.size w wr)) (fun v3 _ => l.length - (intOf v3).toNat)
  case atStart => exact ⟨0, by go_num, by omega, hid rfl, Nat.le_refl _, Below.refl _ _⟩
  case round =>
    obtain ⟨i, rfl, hi1, HA, hz, HB⟩ := hrel
    by_cases hlt : i < l.length
    · have hcr := Kd.C_below HC.out HB.out
      obtain ⟨ad, rfl, e1, e2⟩ := at_T101 hcr (i : Int) (by omega) (by omega)
      rw [Int.toNat_natCast] at e1 e2
      have hgi := rd_rName l i hlt
      have u2 : (rd_T101 l i).f1.size ≤ 1000000 := by rw [hgi]; exact (HU.out _ (List.getElem_mem hlt)).2.2
      have HT := hid (fun W => rtext_walk (rd_T101 l i).f1 W (by omega))
      have hi3 : (i : Int) < (l.length : Int) := by omega
      clear hgi
      rcases hv : rVld l i with _ | _
      · have hv2 : vld (rd_T101 l i).f1 = false := hv
        rw [hv2] at HT
        have HV := hid (show allB (rGood l) l.length = false from allB_not hlt (by rw [rGood, hv]; rfl))
        clear hv hv2 hcr
        go_upto_region 4 with (fail)
        have S0 : wr.cell? (ad.add (i * 2)) = some (.int .u32 (rd_T101 l i).f0) ∧ wr.cell? ⟨(ad.add (i * 2)).block, (ad.add (i * 2)).off + 1, none⟩ = some (.string (rd_T101 l i).f1) ∧ Below w.heap.size w wr ∧ w.heap.size ≤ wr.heap.size := ⟨e1, e2, HB.out, hz⟩
        clear e1 e2
        go_cut [34] (fun s34 wx => s34 = .bool true ∧ w.heap.size ≤ wx.heap.size ∧ Hid (Below w.heap.size w wx))
        case first =>
          refine wp_region_noPanic ?_
          refine wp_region_held_drew (S := (fun W => W.cell? (ad.add (i * 2)) = some (.int .u32 (rd_T101 l i).f0) ∧ W.cell? ⟨(ad.add (i * 2)).block, (ad.add (i * 2)).off + 1, none⟩ = some (.string (rd_T101 l i).f1) ∧ Below w.heap.size w W ∧ w.heap.size ≤ W.heap.size)) (by kernel_rfl) ?hSa1 (fun hHeld => ?goa1)
          case hSa1 => first | exact S0 | assumption | exact keepH3 (by assumption) (by assumption) | exact keepH3 S0 (below_drew (Below.refl _ _))
          refine tk 0 ⟨some 10, .move (.tmp 0), 22, "ref.go:39", #[], none⟩ rfl ?_
          refine tk 1 ⟨some 11, .move (.tmp 3), 3, "ref.go:39", #[], none⟩ rfl ?_
          refine tk 2 ⟨some 12, .indexAddr 22 (.tmp 10) (.tmp 11), 0, "ref.go:39", #[⟨0, .data⟩, ⟨1, .data⟩], none⟩ rfl ?_
          refine tk 3 ⟨some 13, .fieldAddr 101 (.tmp 12) 1, 0, "ref.go:39", #[⟨2, .data⟩], none⟩ rfl ?_
          refine tk 4 ⟨some 14, .load 9 (.tmp 13), 9, "ref.go:39", #[⟨3, .data⟩], none⟩ rfl ?_
          refine wpAnyH_ready (rs := [5]) (by kernel_rfl) (by simp) ?_
          refine AllReadyH.cons (o := ⟨some 15, .call { callee := .value (.func 58), args := #[.tmp 14], argTypes := #[9] }, 4, "ref.go:39", #[⟨4, .data⟩], none⟩) rfl (fun K hK => ?_) AllReadyH.nil
          go_simp
          go_at_call 58; (with_reducible refine (HT.out _).mono ?_); rintro e w' ⟨rfl, hb1⟩
          refine hK.out _ _ ?_ (fun hHeld => ?_)
          · (try dsimp only); first | exact S0 | assumption | exact keepH3 (by assumption) (by assumption) | exact keepH3 S0 (below_drew (Below.refl _ _))
          clear hK K
          try simp only [Act.put, List.setIfInBounds_toArray, List.set_cons_zero, List.set_cons_succ]
          refine tk 6 ⟨some 16, .unOp .not 4 (.tmp 15), 4, "ref.go:39", #[⟨5, .data⟩], none⟩ rfl ?_
          refine tk 7 ⟨some 17, .move (.tmp 16), 4, "ref.go:39", #[⟨6, .data⟩, ⟨5, .chain⟩], none⟩ rfl ?_
          refine tkn 8 ⟨some 18, .move (.tmp 3), 3, "ref.go:39", #[⟨7, .guard⟩], some (7, false)⟩ rfl ?_
          refine tkn 9 ⟨some 19, .binOp .gtr 3 (.tmp 18) (.const (.int .i64 0)) 3, 4, "ref.go:39", #[⟨8, .data⟩, ⟨7, .guard⟩], some (7, false)⟩ rfl ?_
          refine tkn 10 ⟨some 20, .move (.tmp 19), 4, "ref.go:39", #[⟨9, .data⟩, ⟨7, .chain⟩, ⟨7, .guard⟩], some (7, false)⟩ rfl ?_
          refine tkn 11 ⟨some 21, .move (.tmp 0), 22, "ref.go:39", #[⟨10, .guard⟩], some (10, true)⟩ rfl ?_
          refine tkn 12 ⟨some 22, .move (.tmp 3), 3, "ref.go:39", #[⟨10, .guard⟩], some (10, true)⟩ rfl ?_
          refine tkn 13 ⟨some 23, .indexAddr 22 (.tmp 21) (.tmp 22), 0, "ref.go:39", #[⟨11, .data⟩, ⟨12, .data⟩, ⟨10, .guard⟩], some (10, true)⟩ rfl ?_
          refine tkn 14 ⟨some 24, .fieldAddr 101 (.tmp 23) 0, 0, "ref.go:39", #[⟨13, .data⟩, ⟨10, .guard⟩], some (10, true)⟩ rfl ?_
          refine tkn 15 ⟨some 25, .load 45 (.tmp 24), 45, "ref.go:39", #[⟨14, .data⟩, ⟨10, .guard⟩], some (10, true)⟩ rfl ?_
          refine tkn 16 ⟨some 26, .move (.tmp 0), 22, "ref.go:39", #[⟨10, .guard⟩], some (10, true)⟩ rfl ?_
          refine tkn 17 ⟨some 27, .move (.tmp 3), 3, "ref.go:39", #[⟨10, .guard⟩], some (10, true)⟩ rfl ?_
          refine tkn 18 ⟨some 28, .binOp .sub 3 (.tmp 27) (.const (.int .i64 1)) 3, 3, "ref.go:39", #[⟨17, .data⟩, ⟨10, .guard⟩], some (10, true)⟩ rfl ?_
          refine tkn 19 ⟨some 29, .indexAddr 22 (.tmp 26) (.tmp 28), 0, "ref.go:39", #[⟨16, .data⟩, ⟨18, .data⟩, ⟨10, .guard⟩], some (10, true)⟩ rfl ?_
          refine tkn 20 ⟨some 30, .fieldAddr 101 (.tmp 29) 0, 0, "ref.go:39", #[⟨19, .data⟩, ⟨10, .guard⟩], some (10, true)⟩ rfl ?_
          refine tkn 21 ⟨some 31, .load 45 (.tmp 30), 45, "ref.go:39", #[⟨20, .data⟩, ⟨10, .guard⟩], some (10, true)⟩ rfl ?_
          refine tkn 22 ⟨some 32, .binOp .leq 45 (.tmp 25) (.tmp 31) 45, 4, "ref.go:39", #[⟨15, .data⟩, ⟨21, .data⟩, ⟨10, .guard⟩], some (10, true)⟩ rfl ?_
          refine tkn 23 ⟨some 33, .pick (.tmp 20) (.tmp 32) (.const (.bool false)), 4, "ref.go:39", #[⟨10, .data⟩, ⟨22, .data⟩, ⟨7, .guard⟩], some (7, false)⟩ rfl ?_
          refine tk 24 ⟨some 34, .pick (.tmp 17) (.const (.bool true)) (.tmp 33), 4, "ref.go:39", #[⟨7, .data⟩, ⟨23, .data⟩], none⟩ rfl ?_
          refine wpAnyH_done (by kernel_rfl) ?_ _
          refine NoPanic.normal ?_
          go_wp2_with fail
          go_meet
          exact ⟨rfl, hHeld.2.2.2, hid hHeld.2.2.1⟩
        case rest =>
          obtain ⟨rfl, hsx, HX⟩ := hcut
          go_wp2
          go_ret
          exact ⟨ret_bool HV.out.symm, HX.out⟩
      · have hv2 : vld (rd_T101 l i).f1 = true := hv
        rw [hv2] at HT
        rcases i with _ | j
        · have HV := hid (show allB (rGood l) (0 + 1) = true from by rw [allB, HA.out, rGood, hv]; rfl)
          have ea : ad.add (0 * 2) = ad := add_nought ad
          rw [ea, show (((0 : Nat) : Int)) = 0 from rfl] at e1 e2
          rw [show (((0 : Nat) : Int)) = 0 from rfl] at HT
          clear hv hv2 hcr ea
          go_upto_region 4 with (fail)
          have S0 : wr.cell? (ad) = some (.int .u32 (rd_T101 l 0).f0) ∧ wr.cell? ⟨ad.block, ad.off + 1, none⟩ = some (.string (rd_T101 l 0).f1) ∧ Below w.heap.size w wr ∧ w.heap.size ≤ wr.heap.size := ⟨e1, e2, HB.out, hz⟩
          clear e1 e2
          go_cut [34] (fun s34 wx => s34 = .bool false ∧ w.heap.size ≤ wx.heap.size ∧ Hid (Below w.heap.size w wx))
          case first =>
            refine wp_region_noPanic ?_
            refine wp_region_held_drew (S := (fun W => W.cell? (ad) = some (.int .u32 (rd_T101 l 0).f0) ∧ W.cell? ⟨ad.block, ad.off + 1, none⟩ = some (.string (rd_T101 l 0).f1) ∧ Below w.heap.size w W ∧ w.heap.size ≤ W.heap.size)) (by kernel_rfl) ?hSb1 (fun hHeld => ?gob1)
            case hSb1 => first | exact S0 | assumption | exact keepH3 (by assumption) (by assumption) | exact keepH3 S0 (below_drew (Below.refl _ _))
            refine tk 0 ⟨some 10, .move (.tmp 0), 22, "ref.go:39", #[], none⟩ rfl ?_
            refine tk 1 ⟨some 11, .move (.tmp 3), 3, "ref.go:39", #[], none⟩ rfl ?_
            refine tk 2 ⟨some 12, .indexAddr 22 (.tmp 10) (.tmp 11), 0, "ref.go:39", #[⟨0, .data⟩, ⟨1, .data⟩], none⟩ rfl ?_
            refine tk 3 ⟨some 13, .fieldAddr 101 (.tmp 12) 1, 0, "ref.go:39", #[⟨2, .data⟩], none⟩ rfl ?_
            refine tk 4 ⟨some 14, .load 9 (.tmp 13), 9, "ref.go:39", #[⟨3, .data⟩], none⟩ rfl ?_
            refine wpAnyH_ready (rs := [5]) (by kernel_rfl) (by simp) ?_
            refine AllReadyH.cons (o := ⟨some 15, .call { callee := .value (.func 58), args := #[.tmp 14], argTypes := #[9] }, 4, "ref.go:39", #[⟨4, .data⟩], none⟩) rfl (fun K hK => ?_) AllReadyH.nil
            go_simp
            go_at_call 58; (with_reducible refine (HT.out _).mono ?_); rintro e w' ⟨rfl, hb1⟩
            refine hK.out _ _ ?_ (fun hHeld => ?_)
            · (try dsimp only); first | exact S0 | assumption | exact keepH3 (by assumption) (by assumption) | exact keepH3 S0 (below_drew (Below.refl _ _))
            clear hK K
            try simp only [Act.put, List.setIfInBounds_toArray, List.set_cons_zero, List.set_cons_succ]
            refine tk 6 ⟨some 16, .unOp .not 4 (.tmp 15), 4, "ref.go:39", #[⟨5, .data⟩], none⟩ rfl ?_
            refine tk 7 ⟨some 17, .move (.tmp 16), 4, "ref.go:39", #[⟨6, .data⟩, ⟨5, .chain⟩], none⟩ rfl ?_
            refine tk 8 ⟨some 18, .move (.tmp 3), 3, "ref.go:39", #[⟨7, .guard⟩], some (7, false)⟩ rfl ?_
            refine tk 9 ⟨some 19, .binOp .gtr 3 (.tmp 18) (.const (.int .i64 0)) 3, 4, "ref.go:39", #[⟨8, .data⟩, ⟨7, .guard⟩], some (7, false)⟩ rfl ?_
            refine tk 10 ⟨some 20, .move (.tmp 19), 4, "ref.go:39", #[⟨9, .data⟩, ⟨7, .chain⟩, ⟨7, .guard⟩], some (7, false)⟩ rfl ?_
            refine tkn 11 ⟨some 21, .move (.tmp 0), 22, "ref.go:39", #[⟨10, .guard⟩], some (10, true)⟩ rfl ?_
            refine tkn 12 ⟨some 22, .move (.tmp 3), 3, "ref.go:39", #[⟨10, .guard⟩], some (10, true)⟩ rfl ?_
            refine tkn 13 ⟨some 23, .indexAddr 22 (.tmp 21) (.tmp 22), 0, "ref.go:39", #[⟨11, .data⟩, ⟨12, .data⟩, ⟨10, .guard⟩], some (10, true)⟩ rfl ?_
            refine tkn 14 ⟨some 24, .fieldAddr 101 (.tmp 23) 0, 0, "ref.go:39", #[⟨13, .data⟩, ⟨10, .guard⟩], some (10, true)⟩ rfl ?_
            refine tkn 15 ⟨some 25, .load 45 (.tmp 24), 45, "ref.go:39", #[⟨14, .data⟩, ⟨10, .guard⟩], some (10, true)⟩ rfl ?_
            refine tkn 16 ⟨some 26, .move (.tmp 0), 22, "ref.go:39", #[⟨10, .guard⟩], some (10, true)⟩ rfl ?_
            refine tkn 17 ⟨some 27, .move (.tmp 3), 3, "ref.go:39", #[⟨10, .guard⟩], some (10, true)⟩ rfl ?_
            refine tkn 18 ⟨some 28, .binOp .sub 3 (.tmp 27) (.const (.int .i64 1)) 3, 3, "ref.go:39", #[⟨17, .data⟩, ⟨10, .guard⟩], some (10, true)⟩ rfl ?_
            refine tkn 19 ⟨some 29, .indexAddr 22 (.tmp 26) (.tmp 28), 0, "ref.go:39", #[⟨16, .data⟩, ⟨18, .data⟩, ⟨10, .guard⟩], some (10, true)⟩ rfl ?_
            refine tkn 20 ⟨some 30, .fieldAddr 101 (.tmp 29) 0, 0, "ref.go:39", #[⟨19, .data⟩, ⟨10, .guard⟩], some (10, true)⟩ rfl ?_
            refine tkn 21 ⟨some 31, .load 45 (.tmp 30), 45, "ref.go:39", #[⟨20, .data⟩, ⟨10, .guard⟩], some (10, true)⟩ rfl ?_
            refine tkn 22 ⟨some 32, .binOp .leq 45 (.tmp 25) (.tmp 31) 45, 4, "ref.go:39", #[⟨15, .data⟩, ⟨21, .data⟩, ⟨10, .guard⟩], some (10, true)⟩ rfl ?_
            refine tk 23 ⟨some 33, .pick (.tmp 20) (.tmp 32) (.const (.bool false)), 4, "ref.go:39", #[⟨10, .data⟩, ⟨22, .data⟩, ⟨7, .guard⟩], some (7, false)⟩ rfl ?_
            refine tk 24 ⟨some 34, .pick (.tmp 17) (.const (.bool true)) (.tmp 33), 4, "ref.go:39", #[⟨7, .data⟩, ⟨23, .data⟩], none⟩ rfl ?_
            refine wpAnyH_done (by kernel_rfl) ?_ _
            refine NoPanic.normal ?_
            go_wp2_with fail
            go_meet
            exact ⟨rfl, hHeld.2.2.2, hid hHeld.2.2.1⟩
          case rest =>
            obtain ⟨rfl, hsx, HX⟩ := hcut
            go_wp2
            go_roundw
            case rel => exact ⟨0 + 1, by go_num, by omega, HV, hsx, HX⟩
            case measure => simp [intOf]; omega
        · obtain ⟨ad', he, e3, e4⟩ := at_T101 hcr (j : Int) (by omega) (by omega)
          obtain rfl := Option.some.inj he
          rw [Int.toNat_natCast] at e3 e4
          rw [show (((j + 1 : Nat) : Int)) = (j : Int) + 1 by omega] at e1 e2 HT
          have hi4 : (j : Int) < (l.length : Int) := by omega
          have hi5 : (0 : Int) ≤ (j : Int) + 1 := by omega
          have hi6 : (j : Int) + 1 < (l.length : Int) := by omega
          have hi7 : (0 : Int) < (j : Int) + 1 := by omega
          have hw1 : IntKind.i64.wrap ((j : Int) + 1 - 1) = (j : Int) := by rw [IntKind.wrap_i64]; omega
          have hw2 : IntKind.i64.wrap (j : Int) = (j : Int) := by rw [IntKind.wrap_i64]; omega
          have HG := hid (show rGood l (j + 1) = decide ((rd_T101 l (j : Int)).f0 < (rd_T101 l ((j : Int) + 1)).f0) from by rw [rGood, hv, Bool.true_and, rIdx_up])
          clear hv hv2 hcr he
          have S0 : wr.cell? (ad.add ((j + 1) * 2)) = some (.int .u32 (rd_T101 l (j + 1)).f0) ∧ wr.cell? ⟨(ad.add ((j + 1) * 2)).block, (ad.add ((j + 1) * 2)).off + 1, none⟩ = some (.string (rd_T101 l (j + 1)).f1) ∧ wr.cell? (ad.add (j * 2)) = some (.int .u32 (rd_T101 l j).f0) ∧ Below w.heap.size w wr ∧ w.heap.size ≤ wr.heap.size := ⟨e1, e2, e3, HB.out, hz⟩
          go_upto_region 4 with (fail)
          clear e1 e2 e3 e4
          go_cut [34] (fun s34 wx => s34 = .bool (decide ((rd_T101 l (j + 1)).f0 ≤ (rd_T101 l j).f0)) ∧ w.heap.size ≤ wx.heap.size ∧ Hid (Below w.heap.size w wx))
          case first =>
            refine wp_region_noPanic ?_
            refine wp_region_held_drew (S := (fun W => W.cell? (ad.add ((j + 1) * 2)) = some (.int .u32 (rd_T101 l (j + 1)).f0) ∧ W.cell? ⟨(ad.add ((j + 1) * 2)).block, (ad.add ((j + 1) * 2)).off + 1, none⟩ = some (.string (rd_T101 l (j + 1)).f1) ∧ W.cell? (ad.add (j * 2)) = some (.int .u32 (rd_T101 l j).f0) ∧ Below w.heap.size w W ∧ w.heap.size ≤ W.heap.size)) (by kernel_rfl) ?hSc1 (fun hHeld => ?goc1)
            case hSc1 => first | exact S0 | assumption | exact keepH4 (by assumption) (by assumption) | exact keepH4 S0 (below_drew (Below.refl _ _))
            refine tk 0 ⟨some 10, .move (.tmp 0), 22, "ref.go:39", #[], none⟩ rfl ?_
            refine tk 1 ⟨some 11, .move (.tmp 3), 3, "ref.go:39", #[], none⟩ rfl ?_
            refine tk 2 ⟨some 12, .indexAddr 22 (.tmp 10) (.tmp 11), 0, "ref.go:39", #[⟨0, .data⟩, ⟨1, .data⟩], none⟩ rfl ?_
            refine tk 3 ⟨some 13, .fieldAddr 101 (.tmp 12) 1, 0, "ref.go:39", #[⟨2, .data⟩], none⟩ rfl ?_
            refine tk 4 ⟨some 14, .load 9 (.tmp 13), 9, "ref.go:39", #[⟨3, .data⟩], none⟩ rfl ?_
            refine wpAnyH_ready (rs := [5]) (by kernel_rfl) (by simp) ?_
            refine AllReadyH.cons (o := ⟨some 15, .call { callee := .value (.func 58), args := #[.tmp 14], argTypes := #[9] }, 4, "ref.go:39", #[⟨4, .data⟩], none⟩) rfl (fun K hK => ?_) AllReadyH.nil
            go_simp
            go_at_call 58; (with_reducible refine (HT.out _).mono ?_); rintro e w' ⟨rfl, hb1⟩
            refine hK.out _ _ ?_ (fun hHeld => ?_)
            · (try dsimp only); first | exact S0 | assumption | exact keepH4 (by assumption) (by assumption) | exact keepH4 S0 (below_drew (Below.refl _ _))
            clear hK K
            try simp only [Act.put, List.setIfInBounds_toArray, List.set_cons_zero, List.set_cons_succ]
            refine tk 6 ⟨some 16, .unOp .not 4 (.tmp 15), 4, "ref.go:39", #[⟨5, .data⟩], none⟩ rfl ?_
            refine tk 7 ⟨some 17, .move (.tmp 16), 4, "ref.go:39", #[⟨6, .data⟩, ⟨5, .chain⟩], none⟩ rfl ?_
            refine tk 8 ⟨some 18, .move (.tmp 3), 3, "ref.go:39", #[⟨7, .guard⟩], some (7, false)⟩ rfl ?_
            refine tk 9 ⟨some 19, .binOp .gtr 3 (.tmp 18) (.const (.int .i64 0)) 3, 4, "ref.go:39", #[⟨8, .data⟩, ⟨7, .guard⟩], some (7, false)⟩ rfl ?_
            refine tk 10 ⟨some 20, .move (.tmp 19), 4, "ref.go:39", #[⟨9, .data⟩, ⟨7, .chain⟩, ⟨7, .guard⟩], some (7, false)⟩ rfl ?_
            refine tk 11 ⟨some 21, .move (.tmp 0), 22, "ref.go:39", #[⟨10, .guard⟩], some (10, true)⟩ rfl ?_
            refine tk 12 ⟨some 22, .move (.tmp 3), 3, "ref.go:39", #[⟨10, .guard⟩], some (10, true)⟩ rfl ?_
            refine tk 13 ⟨some 23, .indexAddr 22 (.tmp 21) (.tmp 22), 0, "ref.go:39", #[⟨11, .data⟩, ⟨12, .data⟩, ⟨10, .guard⟩], some (10, true)⟩ rfl ?_
            refine tk 14 ⟨some 24, .fieldAddr 101 (.tmp 23) 0, 0, "ref.go:39", #[⟨13, .data⟩, ⟨10, .guard⟩], some (10, true)⟩ rfl ?_
            refine tk 15 ⟨some 25, .load 45 (.tmp 24), 45, "ref.go:39", #[⟨14, .data⟩, ⟨10, .guard⟩], some (10, true)⟩ rfl ?_
            refine tk 16 ⟨some 26, .move (.tmp 0), 22, "ref.go:39", #[⟨10, .guard⟩], some (10, true)⟩ rfl ?_
            refine tk 17 ⟨some 27, .move (.tmp 3), 3, "ref.go:39", #[⟨10, .guard⟩], some (10, true)⟩ rfl ?_
            refine tk 18 ⟨some 28, .binOp .sub 3 (.tmp 27) (.const (.int .i64 1)) 3, 3, "ref.go:39", #[⟨17, .data⟩, ⟨10, .guard⟩], some (10, true)⟩ rfl ?_
            refine tk 19 ⟨some 29, .indexAddr 22 (.tmp 26) (.tmp 28), 0, "ref.go:39", #[⟨16, .data⟩, ⟨18, .data⟩, ⟨10, .guard⟩], some (10, true)⟩ rfl ?_
            refine tk 20 ⟨some 30, .fieldAddr 101 (.tmp 29) 0, 0, "ref.go:39", #[⟨19, .data⟩, ⟨10, .guard⟩], some (10, true)⟩ rfl ?_
            refine tk 21 ⟨some 31, .load 45 (.tmp 30), 45, "ref.go:39", #[⟨20, .data⟩, ⟨10, .guard⟩], some (10, true)⟩ rfl ?_
            refine tk 22 ⟨some 32, .binOp .leq 45 (.tmp 25) (.tmp 31) 45, 4, "ref.go:39", #[⟨15, .data⟩, ⟨21, .data⟩, ⟨10, .guard⟩], some (10, true)⟩ rfl ?_
            refine tk 23 ⟨some 33, .pick (.tmp 20) (.tmp 32) (.const (.bool false)), 4, "ref.go:39", #[⟨10, .data⟩, ⟨22, .data⟩, ⟨7, .guard⟩], some (7, false)⟩ rfl ?_
            refine tk 24 ⟨some 34, .pick (.tmp 17) (.const (.bool true)) (.tmp 33), 4, "ref.go:39", #[⟨7, .data⟩, ⟨23, .data⟩], none⟩ rfl ?_
            refine wpAnyH_done (by kernel_rfl) ?_ _
            refine NoPanic.normal ?_
            go_wp2_with fail
            go_meet
            exact ⟨rfl, hHeld.2.2.2.2, hid hHeld.2.2.2.1⟩
          case rest =>
            obtain ⟨rfl, hsx, HX⟩ := hcut
            by_cases hup : (rd_T101 l (j + 1)).f0 ≤ (rd_T101 l j).f0
            · have HP := hid hup
              go_wp2
              go_ret
              refine ⟨ret_bool ?_, HX.out⟩
              exact (allB_not hlt (by rw [HG.out]; exact decide_eq_false (by have := HP.out; omega))).symm
            · have HP := hid hup
              have hup2 : (rd_T101 l j).f0 < (rd_T101 l (j + 1)).f0 := by omega
              go_wp2
              go_roundw
              case rel => exact ⟨j + 2, by go_num, by omega, hid (by rw [allB, HA.out, Bool.true_and, HG.out]; exact decide_eq_true (by have := HP.out; omega)), hsx, HX⟩
              case measure => simp [intOf]; omega
    · obtain rfl : i = l.length := by omega
      go_wp2
      go_ret
      exact ⟨ret_bool HA.out.symm, HB.out⟩
end Go.Proofs.YtiohiiekaofkbaaDoor
