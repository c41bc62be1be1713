/- Some texts of this seat in one. -/
import Derived.Test.YtiohiiekaofkbaaM5
/- Numbers and texts as the reference puts them: dobbyref05.Num, PutVals. -/
namespace Go.Proofs.Ytiohiiekaofkbaa
set_option linter.unusedVariables false
set_option linter.unusedSimpArgs false
open Go.RowKit Go.Proofs.Ytiohiiekaofkbaa.PNamesPuts Go.Proofs.YtiohiiekaofkbaaW.PrintWords

/-- a number's bytes, in some more than it needs, 5 at most -/
def numB (v m : Int) : List Int := if 5 < (rU v m).length then rU v (5 - (uL v).length) else rU v m
theorem rU_len {v m : Int} (h0 : 0 ≤ v) (h1 : v ≤ 4294967295) (hm : 0 ≤ m) : ((rU v m).length : Int) = (uL v).length + m := by
  obtain ⟨D, y, _, _, e⟩ := rU_digits v m h0 hm
  omega
theorem numB_zero {v : Int} (h0 : 0 ≤ v) (h1 : v ≤ 4294967295) : numB v 0 = uL v := by
  have := uL_le5 v h0 h1
  rw [numB, rU_zero v h0, if_neg (by omega)]
theorem numB_len {v m : Int} (h0 : 0 ≤ v) (h1 : v ≤ 4294967295) (hm : 0 ≤ m) : (numB v m).length ≤ 5 := by
  unfold numB
  split
  · have q := uL_le5 v h0 h1
    have := rU_len (v := v) (m := 5 - (uL v).length) h0 h1 (by omega)
    omega
  · omega
theorem own_conv {W : World} {base : Nat} {v : Value} {l : List Int} (h : Own W base v l) : (convert 49 9 v).run Try.prog W = .ok (.string (strOfNums l)) W :=
  own_string (e := 5) Try.underlying49 Try.underlying5 Try.underlying9 h
theorem rPutU_nil (w : World) (v m : Int) (h0 : 0 ≤ v) (h1 : v ≤ 4294967295) (hm : 0 ≤ m) (hm2 : m ≤ 10) :
    Calls Try.prog 39 #[.slice none 0 0, .int .u64 v, .int .i64 m] w (fun e w' => ∃ A c, e = .returned (.slice A (rU v m).length c) ∧ Hid (Own w' w.heap.size (.slice A (rU v m).length c) (rU v m)) ∧ Below w.heap.size w w') := by
  have hl := rU_len h0 h1 hm
  have := uL_le5 v h0 h1
  refine (refPutU w none 0 [] v m h0 (by omega) hm (by omega) (.inl ⟨rfl, rfl, rfl⟩) (by simp; omega)).mono ?_
  rintro e w' ⟨x, rfl, ho, hb, hz⟩
  rw [List.nil_append] at ho
  obtain ⟨A, c, rfl⟩ := own_slice ho
  exact ⟨A, c, rfl, ho, hb⟩
set_option maxHeartbeats 4000000 in
theorem num_walk (v m : Int) (w : World) (h0 : 0 ≤ v) (h1 : v ≤ 4294967295) (hm : 0 ≤ m) (hm2 : m ≤ 10) :
    Calls Try.prog 31 #[.int .u32 v, .int .i64 m] w (fun e w' => e = .returned (.string (strOfNums (numB v m))) ∧ Below w.heap.size w w') := by
  have hl := rU_len h0 h1 hm
  have h5 := uL_le5 v h0 h1
  have hp := uL_pos v
  have h1' : v ≤ 18446744073709551615 := by omega
  have HP := hid (fun W => rPutU_nil W v m h0 h1 hm hm2)
  have HP0 := hid (fun W => rPutU_nil W v 0 h0 h1 (by omega) (by omega))
  rw [rU_zero v h0] at HP0
  by_cases hbig : 5 < (rU v m).length
  · have hn : numB v m = rU v (5 - (uL v).length) := by rw [numB, if_pos hbig]
    have HP5 := hid (fun W => rPutU_nil W v (5 - (uL v).length) h0 h1 (by omega) (by omega))
    rw [hn]
    clear hn
    have hl2 := rU_len (v := v) (m := 5 - (uL v).length) h0 h1 (by omega)
    have hw5 : IntKind.i64.wrap (5 - ((uL v).length : Int)) = 5 - ((uL v).length : Int) := by rw [IntKind.wrap_i64]; omega
    clear hl hl2
    go_enter Try.func31, Try.ntmps31
    go_upto_region 3 with (first | (go_at_call 39; (with_reducible refine (HP.out _).mono ?_); rintro e w1 ⟨A1, c1, rfl, ho1, hb1⟩))
    clear HP
    go_wp2_with (first | (go_at_call 39; (with_reducible refine (HP0.out _).mono ?_); rintro e w2 ⟨A2, c2, rfl, ho2, hb2⟩) | (go_at_call 39; (with_reducible refine (HP5.out _).mono ?_); rintro e w3 ⟨A3, c3, rfl, ho3, hb3⟩; have hcv := own_conv ho3.out))
    go_ret
    exact ⟨rfl, (hb1.trans (hb2.mono hb1.size)).trans (hb3.mono (Nat.le_trans hb1.size hb2.size))⟩
  · have hn : numB v m = rU v m := by rw [numB, if_neg hbig]
    rw [hn]
    clear hn
    have hbig2 : ((rU v m).length : Int) ≤ 5 := by omega
    clear hl
    go_enter Try.func31, Try.ntmps31
    go_wp2_with (first | (go_at_call 39; (with_reducible refine (HP.out _).mono ?_); rintro e w1 ⟨A1, c1, rfl, ho1, hb1⟩; have hcv := own_conv ho1.out))
    go_ret
    exact ⟨rfl, hb1⟩

theorem str_app (a b : List Int) : strOfNums a ++ strOfNums b = strOfNums (a ++ b) := by
  apply ByteArray.ext
  simp [strOfNums, ByteArray.data_append]
theorem str_bytes (s : ByteArray) : strOfNums (bytesOf s) = s := by
  apply ByteArray.ext
  simp only [strOfNums, bytesOf, List.map_map]
  have : ∀ l : List UInt8, l.map ((fun n : Int => UInt8.ofNat n.toNat) ∘ fun b : UInt8 => (b.toNat : Int)) = l := by
    intro l
    conv => rhs; rw [← List.map_id l]
    exact List.map_congr_left fun x _ => by simp
  rw [this]
/-- a text's bytes, its count in some more -/
def txtM (s : ByteArray) (m : Int) : List Int := numB s.size m ++ bytesOf s
theorem txtM_zero (s : ByteArray) (h : s.size ≤ 4294967295) : txtM s 0 = txt s := by rw [txtM, numB_zero (by omega) (by omega), txt]
set_option maxHeartbeats 4000000 in
theorem putVals_walk (s : ByteArray) (m : Int) (w : World) (hs : s.size ≤ 1000000000) (hm : 0 ≤ m) (hm2 : m ≤ 10) :
    Calls Try.prog 29 #[.string s, .int .i64 m] w (fun e w' => e = .returned (.string (strOfNums (txtM s m))) ∧ Below w.heap.size w w') := by
  have e1 : strOfNums (txtM s m) = strOfNums (numB s.size m) ++ s := by rw [txtM, ← str_app, str_bytes]
  have h0 : (0 : Int) ≤ s.size := by omega
  have h1 : (s.size : Int) ≤ 4294967295 := by omega
  have hn := numB_len h0 h1 hm
  have hsz : (strOfNums (numB s.size m)).size + s.size ≤ 9223372036854775807 := by
    rw [strOfNums_size]; omega
  have HN := hid (fun W => num_walk s.size m W h0 h1 hm hm2)
  rw [e1]
  clear e1 hn
  go_enter Try.func29, Try.ntmps29
  go_wp2_with (first | (go_at_call 31; (with_reducible refine (HN.out _).mono ?_); rintro e w1 ⟨rfl, hb1⟩))
  go_ret
  exact ⟨rfl, hb1⟩
end Go.Proofs.Ytiohiiekaofkbaa

/- Lists of names as the reference puts them: dobbyref14.putList. -/
namespace Go.Proofs.Ytiohiiekaofkbaa
set_option linter.unusedVariables false
set_option linter.unusedSimpArgs false
open Go.RowKit Go.Proofs.Ytiohiiekaofkbaa.PNamesPuts Go.Proofs.YtiohiiekaofkbaaW.PrintWords

def rnB (m : Int) (x : S41) : List Int := numB x.f0 m ++ txtM x.f1 m
def rnsB (m : Int) (l : List S41) : List Int := l.flatMap (rnB m)
def rlB (l : List S41) (m : Int) : List Int := numB l.length m ++ rnsB m l
def rU32s (l : List S41) : Prop := ∀ x ∈ l, 0 ≤ x.f0 ∧ x.f0 ≤ 4294967295 ∧ x.f1.size ≤ 1000000
theorem rd_rName (l : List S41) (i : Nat) (h : i < l.length) : rd_T41 l i = l[i] := by
  simp [rd_T41, List.getD_eq_getElem?_getD, List.getElem?_eq_getElem h]
theorem rnsB_take (m : Int) (l : List S41) (i : Nat) (h : i < l.length) : rnsB m (l.take (i + 1)) = rnsB m (l.take i) ++ rnB m l[i] := by
  rw [List.take_succ_eq_append_getElem h]; unfold rnsB; rw [List.flatMap_append]; simp
theorem rnsB_le (m : Int) (l : List S41) (i : Nat) : (rnsB m (l.take i)).length ≤ (rnsB m l).length := by
  have e : rnsB m l = rnsB m (l.take i) ++ rnsB m (l.drop i) := by unfold rnsB; rw [← List.flatMap_append, List.take_append_drop]
  rw [e, List.length_append]; omega

theorem keepH3 {p1 p2 : Addr} {a b : Value} {w W W' : World} {B : Nat} (h : W.cell? p1 = some a ∧ W.cell? p2 = some b ∧ Below B w W ∧ B ≤ W.heap.size) (hb : Below W.heap.size W W') : W'.cell? p1 = some a ∧ W'.cell? p2 = some b ∧ Below B w W' ∧ B ≤ W'.heap.size :=
  ⟨pw_cell_below hb h.1, pw_cell_below hb h.2.1, h.2.2.1.trans (hb.mono h.2.2.2), Nat.le_trans h.2.2.2 hb.size⟩

set_option maxHeartbeats 8000000 in
theorem rputList_walk (A : Option Addr) (c : Nat) (l : List S41) (m : Int) (w : World) (hC : Kd.C k41 w A l.length l) (hl : l.length ≤ 1000000) (hU : rU32s l) (hm : 0 ≤ m) (hm2 : m ≤ 10) (hb : (rlB l m).length ≤ 1000000000) :
    Calls Try.prog 30 #[.slice A l.length c, .int .i64 m] w (fun e w' => e = .returned (.string (strOfNums (rlB l m))) ∧ Below w.heap.size w w') := by
  have hu := Try.underlying41
  have HC := hid hC
  have HU := hid hU
  have HL := hid hb
  have h0 : (0 : Int) ≤ l.length := by omega
  have h1 : (l.length : Int) ≤ 4294967295 := by omega
  have HN := hid (fun W => num_walk l.length m W h0 h1 hm hm2)
  clear hC hU hb
  go_enter Try.func30, Try.ntmps30
  go_wp2_with (first | (go_at_call 31; (with_reducible refine (HN.out _).mono ?_); rintro e w1 ⟨rfl, hb1⟩))
  have HB1 := hid hb1
  have hz1 := hb1.size
  clear hb1
  go_loopw [5, 6] (fun v5 v6 wr => ∃ i : Nat, v6 = .int .i64 i ∧ v5 = .string (strOfNums (numB l.length m ++ rnsB m (l.take i))) ∧ i ≤ l.length ∧ w.heap.size ≤ wr.heap.size ∧ Hid (Below w.heap.size w wr)) (fun _ v6 _ => l.length - (intOf v6).toNat)
  case atStart => exact ⟨0, by go_num, by simp [rnsB], by omega, hz1, HB1⟩
  case round =>
    obtain ⟨i, rfl, rfl, hi1, hz, HB⟩ := hrel
    by_cases hlt : i < l.length
    · have hcr := Kd.C_below HC.out HB.out
      obtain ⟨ad, rfl, e1, e2⟩ := at_T41 hcr (i : Int) (by omega) (by omega)
      rw [Int.toNat_natCast] at e1 e2
      have hgi := rd_rName l i hlt
      obtain ⟨u0, u1, u2⟩ : 0 ≤ (rd_T41 l i).f0 ∧ (rd_T41 l i).f0 ≤ 4294967295 ∧ (rd_T41 l i).f1.size ≤ 1000000 := by rw [hgi]; exact HU.out _ (List.getElem_mem hlt)
      have hlen : (numB l.length m ++ rnsB m (l.take i)).length + ((numB (rd_T41 l i).f0 m).length + (txtM (rd_T41 l i).f1 m).length) ≤ 1000000000 := by
        have q1 := HL.out
        have q2 := rnsB_le m l (i + 1)
        rw [rnsB_take m l i hlt, ← hgi] at q2
        simp only [rlB, rnB, List.length_append] at q1 q2 ⊢
        omega
      have hs1 : (strOfNums (numB l.length m ++ rnsB m (l.take i))).size + (strOfNums (numB (rd_T41 l i).f0 m)).size ≤ 9223372036854775807 := by rw [strOfNums_size, strOfNums_size]; omega
      have hs2 : (strOfNums (numB l.length m ++ rnsB m (l.take i))).size + (strOfNums (numB (rd_T41 l i).f0 m)).size + (strOfNums (txtM (rd_T41 l i).f1 m)).size ≤ 9223372036854775807 := by rw [strOfNums_size, strOfNums_size, strOfNums_size]; omega
      have HNi := hid (fun W => num_walk (rd_T41 l i).f0 m W u0 u1 hm hm2)
      have HTi := hid (fun W => putVals_walk (rd_T41 l i).f1 m W (by omega) hm hm2)
      have HG := hid hgi
      have hi3 : (i : Int) < (l.length : Int) := by omega
      have S0 : wr.cell? (ad.add (i * 2)) = some (.int .u32 (rd_T41 l i).f0) ∧ wr.cell? ⟨(ad.add (i * 2)).block, (ad.add (i * 2)).off + 1, none⟩ = some (.string (rd_T41 l i).f1) ∧ Below w.heap.size w wr ∧ w.heap.size ≤ wr.heap.size := ⟨e1, e2, HB.out, hz⟩
      clear hcr e1 e2 hgi hlen
      go_upto_region 5 with (fail)
      refine wp_region_noPanic ?_
      refine wp_region_held_drew (S := (fun W => W.cell? (ad.add (i * 2)) = some (.int .u32 (rd_T41 l i).f0) ∧ W.cell? ⟨(ad.add (i * 2)).block, (ad.add (i * 2)).off + 1, none⟩ = some (.string (rd_T41 l i).f1) ∧ Below w.heap.size w W ∧ w.heap.size ≤ W.heap.size)) (by kernel_rfl) ?hS (fun hHeld => ?go)
      case hS => first | exact S0 | assumption | exact keepH3 (by assumption) (by assumption) | exact keepH3 S0 (below_drew (Below.refl _ _))
      refine wpAnyH_take (i := 0) (oi := { dst := some 18, op := Go.Op.move (Go.Operand.tmp 5), type := 9, pos := "ref.go:89", after := #[], guard := none }) (v := ?_) rfl (by kernel_rfl) (by kernel_rfl) (by kernel_rfl) (fun _ _ _ h => h) (Or.inl ⟨by rfl, ?hy0⟩) (by assumption) ?rest0
      case hy0 => (intro w hSw; (try dsimp only at hSw); go_simp; first | (with_reducible rfl) | (rw [if_neg (by omega)]) | skip)
      simp only [Act.put, List.setIfInBounds_toArray, List.set_cons_zero, List.set_cons_succ]
      refine wpAnyH_take (i := 1) (oi := { dst := some 19, op := Go.Op.move (Go.Operand.tmp 0), type := 22, pos := "ref.go:89", after := #[], guard := none }) (v := ?_) rfl (by kernel_rfl) (by kernel_rfl) (by kernel_rfl) (fun _ _ _ h => h) (Or.inl ⟨by rfl, ?hy1⟩) (by assumption) ?rest1
      case hy1 => (intro w hSw; (try dsimp only at hSw); go_simp; first | (with_reducible rfl) | (rw [if_neg (by omega)]) | skip)
      simp only [Act.put, List.setIfInBounds_toArray, List.set_cons_zero, List.set_cons_succ]
      refine wpAnyH_take (i := 2) (oi := { dst := some 20, op := Go.Op.move (Go.Operand.tmp 6), type := 3, pos := "ref.go:89", after := #[], guard := none }) (v := ?_) rfl (by kernel_rfl) (by kernel_rfl) (by kernel_rfl) (fun _ _ _ h => h) (Or.inl ⟨by rfl, ?hy2⟩) (by assumption) ?rest2
      case hy2 => (intro w hSw; (try dsimp only at hSw); go_simp; first | (with_reducible rfl) | (rw [if_neg (by omega)]) | skip)
      simp only [Act.put, List.setIfInBounds_toArray, List.set_cons_zero, List.set_cons_succ]
      refine wpAnyH_take (i := 3) (oi := { dst := some 21, op := Go.Op.indexAddr 22 (Go.Operand.tmp 19) (Go.Operand.tmp 20), type := 0, pos := "ref.go:89", after := #[{ on := 1, ground := Go.Ground.data }, { on := 2, ground := Go.Ground.data }], guard := none }) (v := ?_) rfl (by kernel_rfl) (by kernel_rfl) (by kernel_rfl) (fun _ _ _ h => h) (Or.inl ⟨by rfl, ?hy3⟩) (by assumption) ?rest3
      case hy3 => (intro w hSw; (try dsimp only at hSw); go_simp; first | (with_reducible rfl) | (rw [if_neg (by omega)]) | skip)
      simp only [Act.put, List.setIfInBounds_toArray, List.set_cons_zero, List.set_cons_succ]
      refine wpAnyH_take (i := 4) (oi := { dst := some 22, op := Go.Op.fieldAddr 41 (Go.Operand.tmp 21) 0, type := 0, pos := "ref.go:89", after := #[{ on := 3, ground := Go.Ground.data }], guard := none }) (v := ?_) rfl (by kernel_rfl) (by kernel_rfl) (by kernel_rfl) (fun _ _ _ h => h) (Or.inl ⟨by rfl, ?hy4⟩) (by assumption) ?rest4
      case hy4 => (intro w hSw; (try dsimp only at hSw); go_simp; first | (with_reducible rfl) | (rw [if_neg (by omega)]) | skip)
      simp only [Act.put, List.setIfInBounds_toArray, List.set_cons_zero, List.set_cons_succ]
      refine wpAnyH_take (i := 5) (oi := { dst := some 23, op := Go.Op.load 39 (Go.Operand.tmp 22), type := 39, pos := "ref.go:89", after := #[{ on := 4, ground := Go.Ground.data }], guard := none }) (v := ?_) rfl (by kernel_rfl) (by kernel_rfl) (by kernel_rfl) (fun _ _ _ h => h) (Or.inl ⟨by rfl, ?hy5⟩) (by assumption) ?rest5
      case hy5 => (intro w hSw; (try dsimp only at hSw); go_simp; first | (with_reducible rfl) | (rw [if_neg (by omega)]) | skip)
      simp only [Act.put, List.setIfInBounds_toArray, List.set_cons_zero, List.set_cons_succ]
      refine wpAnyH_take (i := 6) (oi := { dst := some 24, op := Go.Op.move (Go.Operand.tmp 1), type := 3, pos := "ref.go:89", after := #[], guard := none }) (v := ?_) rfl (by kernel_rfl) (by kernel_rfl) (by kernel_rfl) (fun _ _ _ h => h) (Or.inl ⟨by rfl, ?hy6⟩) (by assumption) ?rest6
      case hy6 => (intro w hSw; (try dsimp only at hSw); go_simp; first | (with_reducible rfl) | (rw [if_neg (by omega)]) | skip)
      simp only [Act.put, List.setIfInBounds_toArray, List.set_cons_zero, List.set_cons_succ]
      refine wpAnyH_take (i := 9) (oi := { dst := some 27, op := Go.Op.move (Go.Operand.tmp 0), type := 22, pos := "ref.go:89", after := #[], guard := none }) (v := ?_) rfl (by kernel_rfl) (by kernel_rfl) (by kernel_rfl) (fun _ _ _ h => h) (Or.inl ⟨by rfl, ?hy9⟩) (by assumption) ?rest9
      case hy9 => (intro w hSw; (try dsimp only at hSw); go_simp; first | (with_reducible rfl) | (rw [if_neg (by omega)]) | skip)
      simp only [Act.put, List.setIfInBounds_toArray, List.set_cons_zero, List.set_cons_succ]
      refine wpAnyH_take (i := 10) (oi := { dst := some 28, op := Go.Op.move (Go.Operand.tmp 6), type := 3, pos := "ref.go:89", after := #[], guard := none }) (v := ?_) rfl (by kernel_rfl) (by kernel_rfl) (by kernel_rfl) (fun _ _ _ h => h) (Or.inl ⟨by rfl, ?hy10⟩) (by assumption) ?rest10
      case hy10 => (intro w hSw; (try dsimp only at hSw); go_simp; first | (with_reducible rfl) | (rw [if_neg (by omega)]) | skip)
      simp only [Act.put, List.setIfInBounds_toArray, List.set_cons_zero, List.set_cons_succ]
      refine wpAnyH_take (i := 11) (oi := { dst := some 29, op := Go.Op.indexAddr 22 (Go.Operand.tmp 27) (Go.Operand.tmp 28), type := 0, pos := "ref.go:89", after := #[{ on := 9, ground := Go.Ground.data }, { on := 10, ground := Go.Ground.data }], guard := none }) (v := ?_) rfl (by kernel_rfl) (by kernel_rfl) (by kernel_rfl) (fun _ _ _ h => h) (Or.inl ⟨by rfl, ?hy11⟩) (by assumption) ?rest11
      case hy11 => (intro w hSw; (try dsimp only at hSw); go_simp; first | (with_reducible rfl) | (rw [if_neg (by omega)]) | skip)
      simp only [Act.put, List.setIfInBounds_toArray, List.set_cons_zero, List.set_cons_succ]
      refine wpAnyH_take (i := 12) (oi := { dst := some 30, op := Go.Op.fieldAddr 41 (Go.Operand.tmp 29) 1, type := 0, pos := "ref.go:89", after := #[{ on := 11, ground := Go.Ground.data }], guard := none }) (v := ?_) rfl (by kernel_rfl) (by kernel_rfl) (by kernel_rfl) (fun _ _ _ h => h) (Or.inl ⟨by rfl, ?hy12⟩) (by assumption) ?rest12
      case hy12 => (intro w hSw; (try dsimp only at hSw); go_simp; first | (with_reducible rfl) | (rw [if_neg (by omega)]) | skip)
      simp only [Act.put, List.setIfInBounds_toArray, List.set_cons_zero, List.set_cons_succ]
      refine wpAnyH_take (i := 13) (oi := { dst := some 31, op := Go.Op.load 9 (Go.Operand.tmp 30), type := 9, pos := "ref.go:89", after := #[{ on := 12, ground := Go.Ground.data }], guard := none }) (v := ?_) rfl (by kernel_rfl) (by kernel_rfl) (by kernel_rfl) (fun _ _ _ h => h) (Or.inl ⟨by rfl, ?hy13⟩) (by assumption) ?rest13
      case hy13 => (intro w hSw; (try dsimp only at hSw); go_simp; first | (with_reducible rfl) | (rw [if_neg (by omega)]) | skip)
      simp only [Act.put, List.setIfInBounds_toArray, List.set_cons_zero, List.set_cons_succ]
      refine wpAnyH_take (i := 14) (oi := { dst := some 32, op := Go.Op.move (Go.Operand.tmp 1), type := 3, pos := "ref.go:89", after := #[], guard := none }) (v := ?_) rfl (by kernel_rfl) (by kernel_rfl) (by kernel_rfl) (fun _ _ _ h => h) (Or.inl ⟨by rfl, ?hy14⟩) (by assumption) ?rest14
      case hy14 => (intro w hSw; (try dsimp only at hSw); go_simp; first | (with_reducible rfl) | (rw [if_neg (by omega)]) | skip)
      simp only [Act.put, List.setIfInBounds_toArray, List.set_cons_zero, List.set_cons_succ]
      refine wpAnyH_ready (rs := [7]) (by kernel_rfl) (by simp) ?_
      refine AllReadyH.cons (o := { dst := some 25, op := Go.Op.call { callee := Go.Callee.value (Go.Operand.func 31), args := #[Go.Operand.tmp 23, Go.Operand.tmp 24], argTypes := #[39, 3] }, type := 9, pos := "ref.go:89", after := #[{ on := 5, ground := Go.Ground.data }, { on := 6, ground := Go.Ground.data }], guard := none }) rfl (fun K hK => ?_) AllReadyH.nil
      go_simp
      go_at_call 31; (with_reducible refine (HNi.out _).mono ?_); rintro e w' ⟨rfl, hb1⟩
      refine hK.out _ _ ?_ (fun hHeld => ?_)
      · (try dsimp only); first | exact S0 | assumption | exact keepH3 (by assumption) (by assumption) | exact keepH3 S0 (below_drew (Below.refl _ _))
      clear hK K
      try simp only [Act.put, List.setIfInBounds_toArray, List.set_cons_zero, List.set_cons_succ]
      refine wpAnyH_take (i := 8) (oi := { dst := some 26, op := Go.Op.binOp Go.BinOp.add 9 (Go.Operand.tmp 18) (Go.Operand.tmp 25) 9, type := 9, pos := "ref.go:89", after := #[{ on := 0, ground := Go.Ground.data }, { on := 7, ground := Go.Ground.data }], guard := none }) (v := ?_) rfl (by kernel_rfl) (by kernel_rfl) (by kernel_rfl) (fun _ _ _ h => h) (Or.inl ⟨by rfl, ?hy8⟩) (by assumption) ?rest8
      case hy8 => (intro w hSw; (try dsimp only at hSw); go_simp; first | (with_reducible rfl) | (rw [if_neg (by omega)]) | skip)
      simp only [Act.put, List.setIfInBounds_toArray, List.set_cons_zero, List.set_cons_succ]
      refine wpAnyH_ready (rs := [15]) (by kernel_rfl) (by simp) ?_
      refine AllReadyH.cons (o := { dst := some 33, op := Go.Op.call { callee := Go.Callee.value (Go.Operand.func 29), args := #[Go.Operand.tmp 31, Go.Operand.tmp 32], argTypes := #[9, 3] }, type := 9, pos := "ref.go:89", after := #[{ on := 13, ground := Go.Ground.data }, { on := 14, ground := Go.Ground.data }, { on := 7, ground := Go.Ground.chain }], guard := none }) rfl (fun K hK => ?_) AllReadyH.nil
      go_simp
      go_at_call 29; (with_reducible refine (HTi.out _).mono ?_); rintro e w' ⟨rfl, hb1⟩
      refine hK.out _ _ ?_ (fun hHeld => ?_)
      · (try dsimp only); first | exact S0 | assumption | exact keepH3 (by assumption) (by assumption) | exact keepH3 S0 (below_drew (Below.refl _ _))
      clear hK K
      try simp only [Act.put, List.setIfInBounds_toArray, List.set_cons_zero, List.set_cons_succ]
      refine wpAnyH_take (i := 16) (oi := { dst := some 34, op := Go.Op.binOp Go.BinOp.add 9 (Go.Operand.tmp 26) (Go.Operand.tmp 33) 9, type := 9, pos := "ref.go:89", after := #[{ on := 8, ground := Go.Ground.data }, { on := 15, ground := Go.Ground.data }], guard := none }) (v := ?_) rfl (by kernel_rfl) (by kernel_rfl) (by kernel_rfl) (fun _ _ _ h => h) (Or.inl ⟨by rfl, ?hy16⟩) (by assumption) ?rest16
      case hy16 => (intro w hSw; (try dsimp only at hSw); go_simp; first | (with_reducible rfl) | (rw [if_neg (by omega)]) | skip)
      simp only [Act.put, List.setIfInBounds_toArray, List.set_cons_zero, List.set_cons_succ]
      refine wpAnyH_take (i := 17) (oi := { dst := some 5, op := Go.Op.assign (Go.Operand.tmp 34), type := 9, pos := "ref.go:89", after := #[{ on := 16, ground := Go.Ground.data }, { on := 15, ground := Go.Ground.chain }, { on := 0, ground := Go.Ground.phase }, { on := 1, ground := Go.Ground.phase }, { on := 2, ground := Go.Ground.phase }, { on := 3, ground := Go.Ground.phase }, { on := 4, ground := Go.Ground.phase }, { on := 5, ground := Go.Ground.phase }, { on := 6, ground := Go.Ground.phase }, { on := 7, ground := Go.Ground.phase }, { on := 8, ground := Go.Ground.phase }, { on := 9, ground := Go.Ground.phase }, { on := 10, ground := Go.Ground.phase }, { on := 11, ground := Go.Ground.phase }, { on := 12, ground := Go.Ground.phase }, { on := 13, ground := Go.Ground.phase }, { on := 14, ground := Go.Ground.phase }, { on := 15, ground := Go.Ground.phase }, { on := 16, ground := Go.Ground.phase }], guard := none }) (v := ?_) rfl (by kernel_rfl) (by kernel_rfl) (by kernel_rfl) (fun _ _ _ h => h) (Or.inl ⟨by rfl, ?hy17⟩) (by assumption) ?rest17
      case hy17 => (intro w hSw; (try dsimp only at hSw); go_simp; first | (with_reducible rfl) | (rw [if_neg (by omega)]) | skip)
      simp only [Act.put, List.setIfInBounds_toArray, List.set_cons_zero, List.set_cons_succ]
      refine wpAnyH_done (by kernel_rfl) ?_ _
      refine NoPanic.normal ?_
      all_goals (go_wp2_with fail)
      all_goals
        have hH := (‹_ ∧ _ ∧ Below w.heap.size w w' ∧ _›).2.2
        refine ⟨⟨i + 1, by go_num, ?_, by omega, hH.2, hid hH.1⟩, by simp [intOf]; omega⟩
        rw [rnsB_take m l i hlt, ← HG.out, str_app, str_app]; simp [rnB, List.append_assoc]
    · obtain rfl : i = l.length := by omega
      have hE : strOfNums (numB l.length m ++ rnsB m (l.take l.length)) = strOfNums (rlB l m) := by rw [List.take_length]; rfl
      have HE := hid hE
      clear hE
      go_wp2
      go_ret
      exact ⟨congrArg (fun x => Ending.returned (.string x)) HE.out, HB.out⟩

/-- a local as the reference puts it -/
def rloB (m : Int) (x : S43) : List Int := numB x.f0 m ++ rlB x.f1 m
def rlosB (m : Int) (l : List S43) : List Int := l.flatMap (rloB m)
def rllB (l : List S43) (m : Int) : List Int := numB l.length m ++ rlosB m l
theorem rd_rLocal (l : List S43) (i : Nat) (h : i < l.length) : rd_T43 l i = l[i] := by
  simp [rd_T43, List.getD_eq_getElem?_getD, List.getElem?_eq_getElem h]
theorem rlosB_take (m : Int) (l : List S43) (i : Nat) (h : i < l.length) : rlosB m (l.take (i + 1)) = rlosB m (l.take i) ++ rloB m l[i] := by
  rw [List.take_succ_eq_append_getElem h]; unfold rlosB; rw [List.flatMap_append]; simp
theorem rlosB_le (m : Int) (l : List S43) (i : Nat) : (rlosB m (l.take i)).length ≤ (rlosB m l).length := by
  have e : rlosB m l = rlosB m (l.take i) ++ rlosB m (l.drop i) := by unfold rlosB; rw [← List.flatMap_append, List.take_append_drop]
  rw [e, List.length_append]; omega
def rU32l (l : List S43) : Prop := ∀ x ∈ l, 0 ≤ x.f0 ∧ x.f0 ≤ 4294967295 ∧ rU32s x.f1 ∧ x.f1.length ≤ 1000000

/-- names as the document has them -/
structure rNs where
  hm : Bool
  hf : Bool
  hl : Bool
  md : ByteArray
  fs : List S41
  ls : List S43
def rNs.at (x : rNs) (A : Option Addr) (c : Nat) (B : Option Addr) (d : Nat) (w : World) : Prop := Kd.C k41 w A x.fs.length x.fs ∧ x.fs.length ≤ c ∧ Kd.C k43 w B x.ls.length x.ls ∧ x.ls.length ≤ d
theorem rNs.at.below {x : rNs} {A : Option Addr} {c : Nat} {B : Option Addr} {d : Nat} {w W : World} (h : x.at A c B d w) (hb : Below w.heap.size w W) : x.at A c B d W := ⟨Kd.C_below h.1 hb, h.2.1, Kd.C_below h.2.2.1 hb, h.2.2.2⟩
/-- they are no more than are looked at -/
def rNs.small (x : rNs) : Prop := x.md.size ≤ 1000000 ∧ x.fs.length ≤ 1000000 ∧ x.ls.length ≤ 1000000 ∧ rU32s x.fs ∧ rU32l x.ls
/-- a part -/
def secM (i m : Int) (b : List Int) : List Int := i :: (numB b.length m ++ b)
def rputB (x : rNs) (m : Int) : List Int := (if x.hm then secM 0 m (txtM x.md m) else []) ++ (if x.hf then secM 1 m (rlB x.fs m) else []) ++ (if x.hl then secM 2 m (rllB x.ls m) else [])
end Go.Proofs.Ytiohiiekaofkbaa
