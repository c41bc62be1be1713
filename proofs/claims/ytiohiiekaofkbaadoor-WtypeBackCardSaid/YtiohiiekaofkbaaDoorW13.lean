/- WtypeBack: what is put, as it is read. Plain. -/
import Derived.Test.YtiohiiekaofkbaaDoorW12
namespace Go.Proofs.YtiohiiekaofkbaaDoor
set_option linter.unusedVariables false
set_option linter.unusedSimpArgs false
open Go.RowKit Go.Proofs.YtiohiiekaofkbaaDoor.PWtypePuts Go.Proofs.YtiohiiekaofkbaaDoorW.PrintWords

theorem refV_eq (x : Int) : refV x = refB x := by
  unfold refV refB; rw [Bool.eq_iff_iff]; simp
theorem valV_eq (x : Int) : valV x = valB x := by
  unfold valV valB; rw [refV_eq, Bool.eq_iff_iff]; simp
theorem enc_rU {v m : Int} (h0 : 0 ≤ v) (h1 : v ≤ 4294967295) (hm : 0 ≤ m) (hl : (rU v m).length ≤ 5) : Enc (rU v m) v := by
  obtain ⟨D, y, hd, hv, _⟩ := rU_digits v m h0 hm
  exact ⟨⟨D, y, hd⟩, hv, hl, h0, h1⟩
theorem enc_numB {v m : Int} (h0 : 0 ≤ v) (h1 : v ≤ 4294967295) (hm : 0 ≤ m) : Enc (numB v m) v := by
  have q := uL_le5 v h0 h1
  unfold numB
  split
  · have := rU_len (v := v) (m := 5 - (uL v).length) h0 h1 (by omega)
    exact enc_rU h0 h1 (by omega) (by omega)
  · exact enc_rU h0 h1 hm (by omega)
theorem enc_uL {v : Int} (h0 : 0 ≤ v) (h1 : v ≤ 4294967295) : Enc (uL v) v := by
  have := enc_numB h0 h1 (m := 0) (by omega)
  rwa [numB_zero h0 h1] at this
/-- numbers that are bytes -/
def ByteL (l : List Int) : Prop := ∀ x ∈ l, 0 ≤ x ∧ x < 256
theorem ByteL.app {a b : List Int} (ha : ByteL a) (hb : ByteL b) : ByteL (a ++ b) := fun x hx => by
  rcases List.mem_append.1 hx with h | h
  · exact ha x h
  · exact hb x h
theorem ByteL.one {x : Int} (h0 : 0 ≤ x) (h1 : x < 256) : ByteL [x] := fun y hy => by simp at hy; subst hy; exact ⟨h0, h1⟩
theorem bytesOf_byte (s : ByteArray) : ByteL (bytesOf s) := by
  intro x hx
  simp only [bytesOf, List.mem_map] at hx
  obtain ⟨b, _, rfl⟩ := hx
  have := b.toNat_lt
  omega
theorem Enc.bytes {N : List Int} {v : Int} (h : Enc N v) : ByteL N := by
  obtain ⟨D, y, e, hD, y0, y1⟩ := h.dig
  rw [e]
  exact ByteL.app (fun x hx => by have := hD x hx; omega) (ByteL.one y0 (by omega))
theorem bytesOf_str {l : List Int} (h : ByteL l) : bytesOf (strOfNums l) = l := by
  simp only [bytesOf, strOfNums, List.map_map]
  conv => rhs; rw [← List.map_id l]
  refine List.map_congr_left fun x hx => ?_
  have := h x hx
  simp
  omega
/-- the three types' bytes, the numbers in some more -/
def allB3 (p r : ByteArray) (gv : Int) (gm : Bool) (tv : Int) (tm : Bool) (ta tb n : Int) : List Int := (funcM p r n ++ [gv, bitB gm]) ++ ([tv] ++ limM tm ta tb n)
theorem allB3_whole (p r : ByteArray) (gv : Int) (gm : Bool) (tv : Int) (tm : Bool) (ta tb n : Int) : allB3 p r gv gm tv tm ta tb n = wholeB (numB p.size n) (bytesOf p) (numB r.size n) (bytesOf r) gv (bitB gm) tv tm (numB ta n) (numB tb n) := by
  unfold allB3 wholeB funcM valsM limM fl bitB
  cases tm <;> simp
theorem allB3_reads (p r : ByteArray) (gv : Int) (gm : Bool) (tv : Int) (tm : Bool) (ta tb n : Int) (hp : p.size ≤ 300) (hr : r.size ≤ 300) (hvp : valsB p = true) (hvr : valsB r = true) (hgv : valV gv = true) (htv : refV tv = true) (ta0 : 0 ≤ ta) (ta1 : ta ≤ 4294967295) (tb0 : 0 ≤ tb) (tb1 : tb ≤ 4294967295) (n0 : 0 ≤ n) :
    ∃ p1 p2, ReadsW (allB3 p r gv gm tv tm ta tb n) (allB3 p r gv gm tv tm ta tb n).length (bytesOf p) (bytesOf r) gv (bitB gm) tv tm ta (if tm then tb else 0) p1 p2 := by
  rw [allB3_whole]
  have hall : ∀ s : ByteArray, valsB s = true → ∀ x ∈ bytesOf s, valB x = true := fun s hs x hx => by
    rw [← valV_eq]; exact List.all_eq_true.1 hs x hx
  refine reads_whole (by rw [bytesOf_length]; exact enc_numB (by omega) (by omega) n0) (by rw [bytesOf_length]; exact enc_numB (by omega) (by omega) n0) (hall p hvp) (hall r hvr) (by rw [bytesOf_length]; omega) (by rw [bytesOf_length]; omega)
    (by rw [← valV_eq]; exact hgv) (by unfold bitB; split <;> omega) (by rw [← refV_eq]; exact htv) (enc_numB ta0 ta1 n0) (enc_numB tb0 tb1 n0)
theorem allB3_bytes (p r : ByteArray) (gv : Int) (gm : Bool) (tv : Int) (tm : Bool) (ta tb n : Int) (hp : p.size ≤ 300) (hr : r.size ≤ 300) (g0 : 0 ≤ gv) (g1 : gv < 256) (t0 : 0 ≤ tv) (t1 : tv < 256) (ta0 : 0 ≤ ta) (ta1 : ta ≤ 4294967295) (tb0 : 0 ≤ tb) (tb1 : tb ≤ 4294967295) (n0 : 0 ≤ n) : ByteL (allB3 p r gv gm tv tm ta tb n) := by
  have e1 := (enc_numB (v := p.size) (m := n) (by omega) (by omega) n0).bytes
  have e2 := (enc_numB (v := r.size) (m := n) (by omega) (by omega) n0).bytes
  have e3 := (enc_numB ta0 ta1 n0).bytes
  have e4 := (enc_numB tb0 tb1 n0).bytes
  have hb : ∀ b : Bool, ByteL [bitB b] := fun b => ByteL.one (by unfold bitB; split <;> omega) (by unfold bitB; split <;> omega)
  unfold allB3 funcM valsM limM
  refine ByteL.app (ByteL.app (ByteL.app (ByteL.app (ByteL.one (by omega) (by omega)) (e1.app (bytesOf_byte p))) (e2.app (bytesOf_byte r))) ?_) ((ByteL.one t0 t1).app (((hb tm).app e3).app ?_))
  · exact (ByteL.one g0 g1).app (hb gm)
  · split
    · exact e4
    · intro x hx; simp at hx
theorem allB3_len (p r : ByteArray) (gv : Int) (gm : Bool) (tv : Int) (tm : Bool) (ta tb n : Int) (hp : p.size ≤ 300) (hr : r.size ≤ 300) (ta0 : 0 ≤ ta) (ta1 : ta ≤ 4294967295) (tb0 : 0 ≤ tb) (tb1 : tb ≤ 4294967295) (n0 : 0 ≤ n) : (allB3 p r gv gm tv tm ta tb n).length ≤ 700 ∧ 1 ≤ (allB3 p r gv gm tv tm ta tb n).length := by
  have e1 := valsM_len p (m := n) (by omega) n0
  have e2 := valsM_len r (m := n) (by omega) n0
  have e3 := limM_len tm (m := n) ta0 ta1 tb0 tb1 n0
  unfold allB3 funcM
  simp only [List.length_append, List.length_cons, List.length_nil]
  omega
end Go.Proofs.YtiohiiekaofkbaaDoor
