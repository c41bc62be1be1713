/- The bytes of names as the reference puts them: dobbyref14.Put. -/
import Derived.Test.YtiohiiekaofkbaaZR
namespace Go.Proofs.Ytiohiiekaofkbaa
set_option linter.unusedVariables false
set_option linter.unusedSimpArgs false
open Go.RowKit Go.Proofs.Ytiohiiekaofkbaa.PNamesPuts Go.Proofs.YtiohiiekaofkbaaW.PrintWords

/-- the boxed names -/
def rBoxN (g : Nat) (b1 b2 b3 : Bool) (m : ByteArray) (vf vl : Value) (W : World) : Prop := W.cell? ⟨g, 0, none⟩ = some (.bool b1) ∧ W.cell? ⟨g, 1, none⟩ = some (.bool b2) ∧ W.cell? ⟨g, 2, none⟩ = some (.bool b3) ∧ W.cell? ⟨g, 3, none⟩ = some (.string m) ∧ W.cell? ⟨g, 4, none⟩ = some vf ∧ W.cell? ⟨g, 5, none⟩ = some vl
theorem rBoxN.new (w : World) (b1 b2 b3 : Bool) (m : ByteArray) (vf vl : Value) (T : Nat) : rBoxN w.heap.size b1 b2 b3 m vf vl (w.alloc (.cells #[.bool b1, .bool b2, .bool b3, .string m, vf, vl] T)) := by
  refine ⟨?_, ?_, ?_, ?_, ?_, ?_⟩ <;> simp [World.cell?_alloc_new]
theorem rBoxN.below {g : Nat} {b1 b2 b3 : Bool} {m : ByteArray} {vf vl : Value} {W W' : World} (h : rBoxN g b1 b2 b3 m vf vl W) (hb : Below W.heap.size W W') : rBoxN g b1 b2 b3 m vf vl W' := by
  obtain ⟨h1, h2, h3, h4, h5, h6⟩ := h
  exact ⟨pw_cell_below hb h1, pw_cell_below hb h2, pw_cell_below hb h3, pw_cell_below hb h4, pw_cell_below hb h5, pw_cell_below hb h6⟩
theorem keepH4 {p1 p2 p3 : Addr} {a b c : Value} {w W W' : World} {B : Nat} (h : W.cell? p1 = some a ∧ W.cell? p2 = some b ∧ W.cell? p3 = some c ∧ Below B w W ∧ B ≤ W.heap.size) (hb : Below W.heap.size W W') : W'.cell? p1 = some a ∧ W'.cell? p2 = some b ∧ W'.cell? p3 = some c ∧ Below B w W' ∧ B ≤ W'.heap.size :=
  ⟨pw_cell_below hb h.1, pw_cell_below hb h.2.1, pw_cell_below hb h.2.2.1, h.2.2.2.1.trans (hb.mono h.2.2.2.2), Nat.le_trans h.2.2.2.2 hb.size⟩
/-- all parts are of no more than so many bytes -/
def rNs.fits (x : rNs) (m : Int) : Prop := (txtM x.md m).length ≤ 100000000 ∧ (rlB x.fs m).length ≤ 100000000 ∧ (rllB x.ls m).length ≤ 100000000

theorem bytesOf_str' (l : List Int) : (bytesOf (strOfNums l)).length = l.length := by rw [bytesOf_length, strOfNums_size]
theorem str_one (i : Int) : strOfNums [i] = ⟨#[UInt8.ofNat i.toNat]⟩ := rfl
theorem secM_str {s : ByteArray} {l : List Int} (i m : Int) (h : s = strOfNums l) : strOfNums (txtM s m) = strOfNums (numB l.length m ++ bytesOf (strOfNums l)) := by
  subst h; rw [txtM, strOfNums_size]
theorem txtM_str {l : List Int} (m : Int) : strOfNums (txtM (strOfNums l) m) = strOfNums (numB l.length m ++ l) := by
  rw [txtM, strOfNums_size, ← str_app, str_bytes, str_app]
theorem out1 (i m : Int) (l : List Int) (acc : List Int) (c : ByteArray) (hc : c = strOfNums [i]) : (strOfNums acc ++ c) ++ strOfNums (txtM (strOfNums l) m) = strOfNums (acc ++ secM i m l) := by
  subst hc; rw [txtM_str, str_app, str_app]; simp [secM]

set_option maxRecDepth 100000 in
set_option maxHeartbeats 8000000 in
theorem rput_walk (x : rNs) (A : Option Addr) (c : Nat) (B : Option Addr) (d : Nat) (m : Int) (w : World) (hx : x.at A c B d w) (hs : x.small) (hf : x.fits m) (hm : 0 ≤ m) (hm2 : m ≤ 10) :
    Calls Try.prog 12 #[.agg #[.bool x.hm, .bool x.hf, .bool x.hl, .string x.md, .slice A x.fs.length c, .slice B x.ls.length d], .int .i64 m] w fun e w' => e = .returned (.string (strOfNums (rputB x m))) ∧ Below w.heap.size w w' := by
  have hu := Try.underlying25
  have hu2 := Try.underlying43
  obtain ⟨b1, b2, b3, md, f, l⟩ := x
  dsimp only
  have XL : Hid (Kd.C k43 w B l.length l) := hx.2.2.1
  have XF : Hid (Kd.C k41 w A f.length f) := hx.1
  have XC : f.length ≤ c := hx.2.1
  have SM : md.size ≤ 1000000 := hs.1
  have SF : f.length ≤ 1000000 := hs.2.1
  have SL : l.length ≤ 1000000 := hs.2.2.1
  have UF : Hid (rU32s f) := hs.2.2.2.1
  have UL : Hid (rU32l l) := hs.2.2.2.2
  have LM : (txtM md m).length ≤ 100000000 := hf.1
  have LF : (rlB f m).length ≤ 100000000 := hf.2.1
  have LL : (rllB l m).length ≤ 100000000 := hf.2.2
  clear hx hs hf
  obtain ⟨P1, hP1⟩ : ∃ P, P = (if b1 then secM 0 m (txtM md m) else []) := ⟨_, rfl⟩
  obtain ⟨P2, hP2⟩ : ∃ P, P = P1 ++ (if b2 then secM 1 m (rlB f m) else []) := ⟨_, rfl⟩
  have hPe : rputB ⟨b1, b2, b3, md, f, l⟩ m = P2 ++ (if b3 then secM 2 m (rllB l m) else []) := by rw [hP2, hP1]; rfl
  have L1 : P1.length ≤ 100000010 := by
    rw [hP1]; split
    · have := numB_len (v := (txtM md m).length) (m := m) (by omega) (by omega) hm; simp only [secM, List.length_cons, List.length_append]; omega
    · simp
  have L2 : P2.length ≤ 200000020 := by
    rw [hP2, List.length_append]; split
    · have := numB_len (v := (rlB f m).length) (m := m) (by omega) (by omega) hm; simp only [secM, List.length_cons, List.length_append]; omega
    · simp; omega
  have HPE := hid hPe
  have HP1 := hid hP1
  have HP2 := hid hP2
  clear hPe hP1 hP2
  go_enter Try.func12, Try.ntmps12
  go_upto_region 2 with (fail)
  obtain ⟨w0, hw0⟩ : ∃ w0, w0 = w.alloc (.cells #[.bool b1, .bool b2, .bool b3, .string md, .slice A f.length c, .slice B l.length d] 25) := ⟨_, rfl⟩
  have KN := hid (show rBoxN w.heap.size b1 b2 b3 md (.slice A f.length c) (.slice B l.length d) w0 by rw [hw0]; exact rBoxN.new _ _ _ _ _ _ _ _)
  have KB := hid (show Below w.heap.size w w0 by rw [hw0]; exact below_alloc (Below.refl _ _) _)
  have kz : w.heap.size < w0.heap.size := by rw [hw0]; simp
  rw [← hw0]
  clear hw0
  have k0 := KN.out.1
  go_upto_if 9 with (fail)
  go_cut [5] (fun s5 wx => s5 = .string (strOfNums P1) ∧ Hid (rBoxN w.heap.size b1 b2 b3 md (.slice A f.length c) (.slice B l.length d) wx) ∧ w.heap.size < wx.heap.size ∧ Hid (Below w.heap.size w wx))
  case first =>
    have k3 := KN.out.2.2.2.1
    have HV1 := hid (fun W => putVals_walk md m W (by omega) hm hm2)
    have HV2 := hid (fun W => putVals_walk (strOfNums (txtM md m)) m W (by rw [strOfNums_size]; omega) hm hm2)
    cases b1 with
    | false =>
      go_wp2
      go_meet
      exact ⟨by rw [HP1.out]; rfl, KN, kz, KB⟩
    | true =>
      have hlen := numB_len (v := (txtM md m).length) (m := m) (by omega) (by omega) hm
      have hsz : (strOfNums (txtM (strOfNums (txtM md m)) m)).size ≤ 9223372036854775806 := by rw [strOfNums_size, txtM, List.length_append, bytesOf_str', strOfNums_size]; omega
      go_wp2_with (first | (go_at_call 29; (with_reducible refine (HV1.out _).mono ?_); rintro e w1 ⟨rfl, hb1⟩) | (go_at_call 29; (with_reducible refine (HV2.out _).mono ?_); rintro e w2 ⟨rfl, hb2⟩))
      go_meet
      refine ⟨?_, hid ((KN.out.below hb1).below hb2), by have := hb1.size; have := hb2.size; omega, hid ((KB.out.trans (hb1.mono KB.out.size)).trans (hb2.mono (by have := hb1.size; have := KB.out.size; omega)))⟩
      have hP : P1 = secM 0 m (txtM md m) := by simpa using HP1.out
      have ho := out1 0 m (txtM md m) [] ⟨#[0]⟩ rfl
      rw [show strOfNums ([] : List Int) = ⟨#[]⟩ from rfl] at ho
      have h0 : (⟨#[]⟩ : ByteArray) ++ (⟨#[0]⟩ : ByteArray) = ⟨#[0]⟩ := rfl
      rw [h0] at ho
      rw [ho, hP]; rfl
  case rest =>
    obtain ⟨rfl, KN2, kz2, KB2⟩ := hcut
    clear KN KB kz k0
    have k1 := KN2.out.2.1
    go_upto_if 18 with (fail)
    go_cut [5] (fun s5 wx => s5 = .string (strOfNums P2) ∧ Hid (rBoxN w.heap.size b1 b2 b3 md (.slice A f.length c) (.slice B l.length d) wx) ∧ w.heap.size < wx.heap.size ∧ Hid (Below w.heap.size w wx))
    case first =>
      have k4 := KN2.out.2.2.2.2.1
      cases b2 with
      | false =>
        go_wp2
        go_meet
        exact ⟨by have := HP2.out; simp at this; rw [this], KN2, kz2, KB2⟩
      | true =>
        have HLI := hid (rputList_walk A c f m wc (Kd.C_below XF.out KB2.out) SF UF.out hm hm2 (by omega))
        have HV2 := hid (fun W => putVals_walk (strOfNums (rlB f m)) m W (by rw [strOfNums_size]; omega) hm hm2)
        have hlen := numB_len (v := (rlB f m).length) (m := m) (by omega) (by omega) hm
        have hs0 : (strOfNums P1).size + 1 ≤ 9223372036854775807 := by rw [strOfNums_size]; omega
        have hs1 : (strOfNums P1).size + 1 + (strOfNums (txtM (strOfNums (rlB f m)) m)).size ≤ 9223372036854775807 := by rw [strOfNums_size, strOfNums_size, txtM, List.length_append, bytesOf_str', strOfNums_size]; omega
        have h1s : (⟨#[1]⟩ : ByteArray).size = 1 := rfl
        have hs2 : ((strOfNums P1) ++ (⟨#[1]⟩ : ByteArray)).size + (strOfNums (txtM (strOfNums (rlB f m)) m)).size ≤ 9223372036854775807 := by rw [ByteArray.size_append, h1s]; exact hs1
        clear h1s
        go_wp2_with (first | (go_at_call 30; (with_reducible refine HLI.out.mono ?_); rintro e w1 ⟨rfl, hb1⟩) | (go_at_call 29; (with_reducible refine (HV2.out _).mono ?_); rintro e w2 ⟨rfl, hb2⟩))
        go_meet
        refine ⟨?_, hid ((KN2.out.below hb1).below hb2), by have := hb1.size; have := hb2.size; omega, hid ((KB2.out.trans (hb1.mono KB2.out.size)).trans (hb2.mono (by have := hb1.size; have := KB2.out.size; omega)))⟩
        have hP : P2 = P1 ++ secM 1 m (rlB f m) := by simpa using HP2.out
        rw [out1 1 m (rlB f m) P1 ⟨#[1]⟩ rfl, hP]
    case rest =>
      obtain ⟨rfl, KN, kz, KB⟩ := hcut
      clear KN2 KB2 kz2 k1
      have k2 := KN.out.2.2.1
      cases b3 with
      | false =>
        have HE := hid (show strOfNums P2 = strOfNums (rputB ⟨b1, b2, false, md, f, l⟩ m) by rw [HPE.out]; simp)
        go_wp2
        go_ret
        exact ⟨congrArg (fun x => Ending.returned (.string x)) HE.out, KB.out⟩
      | true =>
        have k5 := KN.out.2.2.2.2.2
        have h0 : (0 : Int) ≤ l.length := by omega
        have h1 : (l.length : Int) ≤ 4294967295 := by omega
        have HN := hid (fun W => num_walk l.length m W h0 h1 hm hm2)
        obtain ⟨w1, rfl⟩ : ∃ w1, w1 = wc := ⟨_, rfl⟩
        go_upto_region 9 with (first | (go_at_call 31; (with_reducible refine (HN.out _).mono ?_); rintro e w2 ⟨rfl, hb1⟩))
        have KN2 := hid (KN.out.below hb1)
        have KB2 := hid (KB.out.trans (hb1.mono KB.out.size))
        have kz2 : w.heap.size < w2.heap.size := Nat.lt_of_lt_of_le kz hb1.size
        clear KN KB kz hb1 k2 k5 HN
        go_loopw [6, 7] (fun v6 v7 wr => ∃ i : Nat, v7 = .int .i64 i ∧ v6 = .string (strOfNums (numB l.length m ++ rlosB m (l.take i))) ∧ i ≤ l.length ∧ Hid (rBoxN w.heap.size b1 b2 true md (.slice A f.length c) (.slice B l.length d) wr) ∧ w.heap.size < wr.heap.size ∧ Hid (Below w.heap.size w wr)) (fun _ v7 _ => l.length - (intOf v7).toNat)
        case atStart => exact ⟨0, by go_num, by simp [rlosB], by omega, KN2, kz2, KB2⟩
        case round =>
          obtain ⟨i, rfl, rfl, hi1, KN, hz, HB⟩ := hrel
          clear KN2 KB2 kz2
          have k5 := KN.out.2.2.2.2.2
          by_cases hlt : i < l.length
          · have hcr := Kd.C_below XL.out HB.out
            obtain ⟨ad, A1, c1, rfl, e1, e2, l1, g1⟩ := at_T43 hcr (i : Int) (by omega) (by omega)
            rw [Int.toNat_natCast] at e1 e2
            have hgi := rd_rLocal l i hlt
            obtain ⟨u0, u1, u2, u3⟩ : 0 ≤ (rd_T43 l i).f0 ∧ (rd_T43 l i).f0 ≤ 4294967295 ∧ rU32s (rd_T43 l i).f1 ∧ (rd_T43 l i).f1.length ≤ 1000000 := by rw [hgi]; exact UL.out _ (List.getElem_mem hlt)
            have hlen : (numB l.length m ++ rlosB m (l.take i)).length + ((numB (rd_T43 l i).f0 m).length + (rlB (rd_T43 l i).f1 m).length) ≤ 100000000 := by
              have q1 := LL
              have q2 := rlosB_le m l (i + 1)
              rw [rlosB_take m l i hlt, ← hgi] at q2
              simp only [rllB, rloB, List.length_append] at q1 q2 ⊢
              omega
            have hs1 : (strOfNums (numB l.length m ++ rlosB m (l.take i))).size + (strOfNums (numB (rd_T43 l i).f0 m)).size ≤ 9223372036854775807 := by rw [strOfNums_size, strOfNums_size]; omega
            have hs2 : (strOfNums (numB l.length m ++ rlosB m (l.take i))).size + (strOfNums (numB (rd_T43 l i).f0 m)).size + (strOfNums (rlB (rd_T43 l i).f1 m)).size ≤ 9223372036854775807 := by rw [strOfNums_size, strOfNums_size, strOfNums_size]; omega
            have HNi := hid (fun W => num_walk (rd_T43 l i).f0 m W u0 u1 hm hm2)
            have HTi := hid (fun W (h : Below wr.heap.size wr W) => rputList_walk A1 c1 (rd_T43 l i).f1 m W (Kd.C_below g1 h) u3 u2 hm hm2 (by omega))
            have HG := hid hgi
            have hi3 : (i : Int) < (l.length : Int) := by omega
            have S0 : wr.cell? ⟨w.heap.size, 5, none⟩ = some (.slice (some ad) l.length d) ∧ wr.cell? (ad.add (i * 2)) = some (.int .u32 (rd_T43 l i).f0) ∧ wr.cell? ⟨(ad.add (i * 2)).block, (ad.add (i * 2)).off + 1, none⟩ = some (.slice A1 (rd_T43 l i).f1.length c1) ∧ Below wr.heap.size wr wr ∧ wr.heap.size ≤ wr.heap.size := ⟨k5, e1, e2, Below.refl _ _, Nat.le_refl _⟩
            clear hcr e1 e2 g1 u2 hgi hlen
            go_upto_region 11 with (fail)
            clear k5
            refine wp_region_noPanic ?_
            refine wp_region_held_drew (S := (fun W => W.cell? ⟨w.heap.size, 5, none⟩ = some (.slice (some ad) l.length d) ∧ W.cell? (ad.add (i * 2)) = some (.int .u32 (rd_T43 l i).f0) ∧ W.cell? ⟨(ad.add (i * 2)).block, (ad.add (i * 2)).off + 1, none⟩ = some (.slice A1 (rd_T43 l i).f1.length c1) ∧ Below wr.heap.size wr W ∧ wr.heap.size ≤ W.heap.size)) (by kernel_rfl) ?hS (fun hHeld => ?go)
            case hS => first | exact S0 | assumption | exact keepH4 (by assumption) (by assumption) | exact keepH4 S0 (below_drew (Below.refl _ _))
            refine wpAnyH_take (i := 0) (oi := { dst := some 43, op := Go.Op.move (Go.Operand.tmp 6), type := 9, pos := "ref.go:106", after := #[], guard := none }) (v := ?_) rfl (by kernel_rfl) (by kernel_rfl) (by kernel_rfl) (fun _ _ _ h => h) (Or.inl ⟨by rfl, ?hy0⟩) (by assumption) ?rest0
            case hy0 => (intro w hSw; (try dsimp only at hSw); go_simp; first | (with_reducible rfl) | (rw [if_neg (by omega)]) | skip)
            simp only [Act.put, List.setIfInBounds_toArray, List.set_cons_zero, List.set_cons_succ]
            refine wpAnyH_take (i := 1) (oi := { dst := some 44, op := Go.Op.fieldAddr 25 (Go.Operand.tmp 2) 5, type := 0, pos := "ref.go:106", after := #[], guard := none }) (v := ?_) rfl (by kernel_rfl) (by kernel_rfl) (by kernel_rfl) (fun _ _ _ h => h) (Or.inl ⟨by rfl, ?hy1⟩) (by assumption) ?rest1
            case hy1 => (intro w hSw; (try dsimp only at hSw); go_simp; first | (with_reducible rfl) | (rw [if_neg (by omega)]) | skip)
            simp only [Act.put, List.setIfInBounds_toArray, List.set_cons_zero, List.set_cons_succ]
            refine wpAnyH_take (i := 2) (oi := { dst := some 45, op := Go.Op.load 23 (Go.Operand.tmp 44), type := 23, pos := "ref.go:106", after := #[{ on := 1, ground := Go.Ground.data }], guard := none }) (v := ?_) rfl (by kernel_rfl) (by kernel_rfl) (by kernel_rfl) (fun _ _ _ h => h) (Or.inl ⟨by rfl, ?hy2⟩) (by assumption) ?rest2
            case hy2 => (intro w hSw; (try dsimp only at hSw); go_simp; first | (with_reducible rfl) | (rw [if_neg (by omega)]) | skip)
            simp only [Act.put, List.setIfInBounds_toArray, List.set_cons_zero, List.set_cons_succ]
            refine wpAnyH_take (i := 3) (oi := { dst := some 46, op := Go.Op.move (Go.Operand.tmp 7), type := 3, pos := "ref.go:106", after := #[], guard := none }) (v := ?_) rfl (by kernel_rfl) (by kernel_rfl) (by kernel_rfl) (fun _ _ _ h => h) (Or.inl ⟨by rfl, ?hy3⟩) (by assumption) ?rest3
            case hy3 => (intro w hSw; (try dsimp only at hSw); go_simp; first | (with_reducible rfl) | (rw [if_neg (by omega)]) | skip)
            simp only [Act.put, List.setIfInBounds_toArray, List.set_cons_zero, List.set_cons_succ]
            refine wpAnyH_take (i := 4) (oi := { dst := some 47, op := Go.Op.indexAddr 23 (Go.Operand.tmp 45) (Go.Operand.tmp 46), type := 0, pos := "ref.go:106", after := #[{ on := 2, ground := Go.Ground.data }, { on := 3, ground := Go.Ground.data }], guard := none }) (v := ?_) rfl (by kernel_rfl) (by kernel_rfl) (by kernel_rfl) (fun _ _ _ h => h) (Or.inl ⟨by rfl, ?hy4⟩) (by assumption) ?rest4
            case hy4 => (intro w hSw; (try dsimp only at hSw); go_simp; first | (with_reducible rfl) | (rw [if_neg (by omega)]) | skip)
            simp only [Act.put, List.setIfInBounds_toArray, List.set_cons_zero, List.set_cons_succ]
            refine wpAnyH_take (i := 5) (oi := { dst := some 48, op := Go.Op.fieldAddr 43 (Go.Operand.tmp 47) 0, type := 0, pos := "ref.go:106", after := #[{ on := 4, ground := Go.Ground.data }], guard := none }) (v := ?_) rfl (by kernel_rfl) (by kernel_rfl) (by kernel_rfl) (fun _ _ _ h => h) (Or.inl ⟨by rfl, ?hy5⟩) (by assumption) ?rest5
            case hy5 => (intro w hSw; (try dsimp only at hSw); go_simp; first | (with_reducible rfl) | (rw [if_neg (by omega)]) | skip)
            simp only [Act.put, List.setIfInBounds_toArray, List.set_cons_zero, List.set_cons_succ]
            refine wpAnyH_take (i := 6) (oi := { dst := some 49, op := Go.Op.load 39 (Go.Operand.tmp 48), type := 39, pos := "ref.go:106", after := #[{ on := 5, ground := Go.Ground.data }], guard := none }) (v := ?_) rfl (by kernel_rfl) (by kernel_rfl) (by kernel_rfl) (fun _ _ _ h => h) (Or.inl ⟨by rfl, ?hy6⟩) (by assumption) ?rest6
            case hy6 => (intro w hSw; (try dsimp only at hSw); go_simp; first | (with_reducible rfl) | (rw [if_neg (by omega)]) | skip)
            simp only [Act.put, List.setIfInBounds_toArray, List.set_cons_zero, List.set_cons_succ]
            refine wpAnyH_take (i := 7) (oi := { dst := some 50, op := Go.Op.move (Go.Operand.tmp 1), type := 3, pos := "ref.go:106", after := #[], guard := none }) (v := ?_) rfl (by kernel_rfl) (by kernel_rfl) (by kernel_rfl) (fun _ _ _ h => h) (Or.inl ⟨by rfl, ?hy7⟩) (by assumption) ?rest7
            case hy7 => (intro w hSw; (try dsimp only at hSw); go_simp; first | (with_reducible rfl) | (rw [if_neg (by omega)]) | skip)
            simp only [Act.put, List.setIfInBounds_toArray, List.set_cons_zero, List.set_cons_succ]
            refine wpAnyH_take (i := 10) (oi := { dst := some 53, op := Go.Op.fieldAddr 25 (Go.Operand.tmp 2) 5, type := 0, pos := "ref.go:106", after := #[], guard := none }) (v := ?_) rfl (by kernel_rfl) (by kernel_rfl) (by kernel_rfl) (fun _ _ _ h => h) (Or.inl ⟨by rfl, ?hy10⟩) (by assumption) ?rest10
            case hy10 => (intro w hSw; (try dsimp only at hSw); go_simp; first | (with_reducible rfl) | (rw [if_neg (by omega)]) | skip)
            simp only [Act.put, List.setIfInBounds_toArray, List.set_cons_zero, List.set_cons_succ]
            refine wpAnyH_take (i := 11) (oi := { dst := some 54, op := Go.Op.load 23 (Go.Operand.tmp 53), type := 23, pos := "ref.go:106", after := #[{ on := 10, ground := Go.Ground.data }], guard := none }) (v := ?_) rfl (by kernel_rfl) (by kernel_rfl) (by kernel_rfl) (fun _ _ _ h => h) (Or.inl ⟨by rfl, ?hy11⟩) (by assumption) ?rest11
            case hy11 => (intro w hSw; (try dsimp only at hSw); go_simp; first | (with_reducible rfl) | (rw [if_neg (by omega)]) | skip)
            simp only [Act.put, List.setIfInBounds_toArray, List.set_cons_zero, List.set_cons_succ]
            refine wpAnyH_take (i := 12) (oi := { dst := some 55, op := Go.Op.move (Go.Operand.tmp 7), type := 3, pos := "ref.go:106", after := #[], guard := none }) (v := ?_) rfl (by kernel_rfl) (by kernel_rfl) (by kernel_rfl) (fun _ _ _ h => h) (Or.inl ⟨by rfl, ?hy12⟩) (by assumption) ?rest12
            case hy12 => (intro w hSw; (try dsimp only at hSw); go_simp; first | (with_reducible rfl) | (rw [if_neg (by omega)]) | skip)
            simp only [Act.put, List.setIfInBounds_toArray, List.set_cons_zero, List.set_cons_succ]
            refine wpAnyH_take (i := 13) (oi := { dst := some 56, op := Go.Op.indexAddr 23 (Go.Operand.tmp 54) (Go.Operand.tmp 55), type := 0, pos := "ref.go:106", after := #[{ on := 11, ground := Go.Ground.data }, { on := 12, ground := Go.Ground.data }], guard := none }) (v := ?_) rfl (by kernel_rfl) (by kernel_rfl) (by kernel_rfl) (fun _ _ _ h => h) (Or.inl ⟨by rfl, ?hy13⟩) (by assumption) ?rest13
            case hy13 => (intro w hSw; (try dsimp only at hSw); go_simp; first | (with_reducible rfl) | (rw [if_neg (by omega)]) | skip)
            simp only [Act.put, List.setIfInBounds_toArray, List.set_cons_zero, List.set_cons_succ]
            refine wpAnyH_take (i := 14) (oi := { dst := some 57, op := Go.Op.fieldAddr 43 (Go.Operand.tmp 56) 1, type := 0, pos := "ref.go:106", after := #[{ on := 13, ground := Go.Ground.data }], guard := none }) (v := ?_) rfl (by kernel_rfl) (by kernel_rfl) (by kernel_rfl) (fun _ _ _ h => h) (Or.inl ⟨by rfl, ?hy14⟩) (by assumption) ?rest14
            case hy14 => (intro w hSw; (try dsimp only at hSw); go_simp; first | (with_reducible rfl) | (rw [if_neg (by omega)]) | skip)
            simp only [Act.put, List.setIfInBounds_toArray, List.set_cons_zero, List.set_cons_succ]
            refine wpAnyH_take (i := 15) (oi := { dst := some 58, op := Go.Op.load 22 (Go.Operand.tmp 57), type := 22, pos := "ref.go:106", after := #[{ on := 14, ground := Go.Ground.data }], guard := none }) (v := ?_) rfl (by kernel_rfl) (by kernel_rfl) (by kernel_rfl) (fun _ _ _ h => h) (Or.inl ⟨by rfl, ?hy15⟩) (by assumption) ?rest15
            case hy15 => (intro w hSw; (try dsimp only at hSw); go_simp; first | (with_reducible rfl) | (rw [if_neg (by omega)]) | skip)
            simp only [Act.put, List.setIfInBounds_toArray, List.set_cons_zero, List.set_cons_succ]
            refine wpAnyH_take (i := 16) (oi := { dst := some 59, op := Go.Op.move (Go.Operand.tmp 1), type := 3, pos := "ref.go:106", after := #[], guard := none }) (v := ?_) rfl (by kernel_rfl) (by kernel_rfl) (by kernel_rfl) (fun _ _ _ h => h) (Or.inl ⟨by rfl, ?hy16⟩) (by assumption) ?rest16
            case hy16 => (intro w hSw; (try dsimp only at hSw); go_simp; first | (with_reducible rfl) | (rw [if_neg (by omega)]) | skip)
            simp only [Act.put, List.setIfInBounds_toArray, List.set_cons_zero, List.set_cons_succ]
            refine wpAnyH_ready (rs := [8]) (by kernel_rfl) (by simp) ?_
            refine AllReadyH.cons (o := { dst := some 51, op := Go.Op.call { callee := Go.Callee.value (Go.Operand.func 31), args := #[Go.Operand.tmp 49, Go.Operand.tmp 50], argTypes := #[39, 3] }, type := 9, pos := "ref.go:106", after := #[{ on := 6, ground := Go.Ground.data }, { on := 7, ground := Go.Ground.data }], guard := none }) rfl (fun K hK => ?_) AllReadyH.nil
            go_simp
            go_at_call 31; (with_reducible refine (HNi.out _).mono ?_); rintro e w' ⟨rfl, hb1⟩
            refine hK.out _ _ ?_ (fun hHeld => ?_)
            · (try dsimp only); first | exact S0 | assumption | exact keepH4 (by assumption) (by assumption) | exact keepH4 S0 (below_drew (Below.refl _ _))
            clear hK K
            try simp only [Act.put, List.setIfInBounds_toArray, List.set_cons_zero, List.set_cons_succ]
            refine wpAnyH_take (i := 9) (oi := { dst := some 52, op := Go.Op.binOp Go.BinOp.add 9 (Go.Operand.tmp 43) (Go.Operand.tmp 51) 9, type := 9, pos := "ref.go:106", after := #[{ on := 0, ground := Go.Ground.data }, { on := 8, ground := Go.Ground.data }], guard := none }) (v := ?_) rfl (by kernel_rfl) (by kernel_rfl) (by kernel_rfl) (fun _ _ _ h => h) (Or.inl ⟨by rfl, ?hy9⟩) (by assumption) ?rest9
            case hy9 => (intro w hSw; (try dsimp only at hSw); go_simp; first | (with_reducible rfl) | (rw [if_neg (by omega)]) | skip)
            simp only [Act.put, List.setIfInBounds_toArray, List.set_cons_zero, List.set_cons_succ]
            refine wpAnyH_ready (rs := [17]) (by kernel_rfl) (by simp) ?_
            refine AllReadyH.cons (o := { dst := some 60, op := Go.Op.call { callee := Go.Callee.value (Go.Operand.func 30), args := #[Go.Operand.tmp 58, Go.Operand.tmp 59], argTypes := #[22, 3] }, type := 9, pos := "ref.go:106", after := #[{ on := 15, ground := Go.Ground.data }, { on := 16, ground := Go.Ground.data }, { on := 8, ground := Go.Ground.chain }], guard := none }) rfl (fun K hK => ?_) AllReadyH.nil
            go_simp
            go_at_call 30; (with_reducible refine (HTi.out _ (‹_ ∧ _ ∧ _ ∧ Below wr.heap.size wr _ ∧ _›).2.2.2.1).mono ?_); rintro e w' ⟨rfl, hb1⟩
            refine hK.out _ _ ?_ (fun hHeld => ?_)
            · (try dsimp only); first | exact S0 | assumption | exact keepH4 (by assumption) (by assumption) | exact keepH4 S0 (below_drew (Below.refl _ _))
            clear hK K
            try simp only [Act.put, List.setIfInBounds_toArray, List.set_cons_zero, List.set_cons_succ]
            refine wpAnyH_take (i := 18) (oi := { dst := some 61, op := Go.Op.binOp Go.BinOp.add 9 (Go.Operand.tmp 52) (Go.Operand.tmp 60) 9, type := 9, pos := "ref.go:106", after := #[{ on := 9, ground := Go.Ground.data }, { on := 17, ground := Go.Ground.data }], guard := none }) (v := ?_) rfl (by kernel_rfl) (by kernel_rfl) (by kernel_rfl) (fun _ _ _ h => h) (Or.inl ⟨by rfl, ?hy18⟩) (by assumption) ?rest18
            case hy18 => (intro w hSw; (try dsimp only at hSw); go_simp; first | (with_reducible rfl) | (rw [if_neg (by omega)]) | skip)
            simp only [Act.put, List.setIfInBounds_toArray, List.set_cons_zero, List.set_cons_succ]
            refine wpAnyH_take (i := 19) (oi := { dst := some 6, op := Go.Op.assign (Go.Operand.tmp 61), type := 9, pos := "ref.go:106", after := #[{ on := 18, ground := Go.Ground.data }, { on := 17, ground := Go.Ground.chain }, { on := 0, ground := Go.Ground.phase }, { on := 1, ground := Go.Ground.phase }, { on := 2, ground := Go.Ground.phase }, { on := 3, ground := Go.Ground.phase }, { on := 4, ground := Go.Ground.phase }, { on := 5, ground := Go.Ground.phase }, { on := 6, ground := Go.Ground.phase }, { on := 7, ground := Go.Ground.phase }, { on := 8, ground := Go.Ground.phase }, { on := 9, ground := Go.Ground.phase }, { on := 10, ground := Go.Ground.phase }, { on := 11, ground := Go.Ground.phase }, { on := 12, ground := Go.Ground.phase }, { on := 13, ground := Go.Ground.phase }, { on := 14, ground := Go.Ground.phase }, { on := 15, ground := Go.Ground.phase }, { on := 16, ground := Go.Ground.phase }, { on := 17, ground := Go.Ground.phase }, { on := 18, ground := Go.Ground.phase }], guard := none }) (v := ?_) rfl (by kernel_rfl) (by kernel_rfl) (by kernel_rfl) (fun _ _ _ h => h) (Or.inl ⟨by rfl, ?hy19⟩) (by assumption) ?rest19
            case hy19 => (intro w hSw; (try dsimp only at hSw); go_simp; first | (with_reducible rfl) | (rw [if_neg (by omega)]) | skip)
            simp only [Act.put, List.setIfInBounds_toArray, List.set_cons_zero, List.set_cons_succ]
            refine wpAnyH_done (by kernel_rfl) ?_ _
            refine NoPanic.normal ?_
            all_goals (go_wp2_with fail)
            all_goals
              have hH := (‹_ ∧ _ ∧ _ ∧ Below wr.heap.size wr w' ∧ _›).2.2.2
              refine ⟨⟨i + 1, by go_num, ?_, by omega, hid (KN.out.below hH.1), by omega, hid (HB.out.trans (hH.1.mono HB.out.size))⟩, by simp [intOf]; omega⟩
              rw [rlosB_take m l i hlt, ← HG.out, str_app, str_app]; simp [rloB, List.append_assoc]
          · obtain rfl : i = l.length := by omega
            have hE : strOfNums (numB l.length m ++ rlosB m (l.take l.length)) = strOfNums (rllB l m) := by rw [List.take_length]; rfl
            rw [hE]
            clear hE
            have HV2 := hid (fun W => putVals_walk (strOfNums (rllB l m)) m W (by rw [strOfNums_size]; omega) hm hm2)
            have hlen := numB_len (v := (rllB l m).length) (m := m) (by omega) (by omega) hm
            have hs0 : (strOfNums P2).size + 1 ≤ 9223372036854775807 := by rw [strOfNums_size]; omega
            have hs1 : (strOfNums P2).size + 1 + (strOfNums (txtM (strOfNums (rllB l m)) m)).size ≤ 9223372036854775807 := by rw [strOfNums_size, strOfNums_size, txtM, List.length_append, bytesOf_str', strOfNums_size]; omega
            have hfin : strOfNums P2 ++ (⟨#[2]⟩ : ByteArray) ++ strOfNums (txtM (strOfNums (rllB l m)) m) = strOfNums (rputB ⟨b1, b2, true, md, f, l⟩ m) := by
              rw [out1 2 m (rllB l m) P2 ⟨#[2]⟩ rfl]
              have := HPE.out
              simp at this
              rw [this]
            have HE := hid hfin
            clear hfin
            go_wp2_with (first | (go_at_call 29; (with_reducible refine (HV2.out _).mono ?_); rintro e w3 ⟨rfl, hb2⟩))
            go_ret
            exact ⟨congrArg (fun x => Ending.returned (.string x)) HE.out, HB.out.trans (hb2.mono HB.out.size)⟩
end Go.Proofs.Ytiohiiekaofkbaa
