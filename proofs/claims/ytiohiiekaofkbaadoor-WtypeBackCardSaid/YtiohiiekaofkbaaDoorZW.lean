/- Some texts of this seat in one. -/
import Derived.Test.YtiohiiekaofkbaaDoorQ1
import Derived.Test.YtiohiiekaofkbaaDoorQ4
import Derived.Test.YtiohiiekaofkbaaDoorQ5
import Derived.StillTailTactics
import Derived.Deep.QuietTactic
import Derived.BigQuiet
import Derived.Deep.RegionHeld3
/- The types' bytes, as the printed functions make them: the program's and the reference's. -/
namespace Go.Proofs.YtiohiiekaofkbaaDoor
set_option linter.unusedVariables false
set_option linter.unusedSimpArgs false
open Go.RowKit Go.Proofs.YtiohiiekaofkbaaDoor.PWtypePuts Go.Proofs.YtiohiiekaofkbaaDoorW.PrintWords

theorem or128' (x : Int) (h0 : 0 ≤ x) (h : x < 256) : bits .or .u8 x 128 = x % 128 + 128 := by
  obtain ⟨n, rfl⟩ : ∃ n : Nat, x = n := ⟨x.toNat, by omega⟩
  have hn : n < 256 := by omega
  have key : ∀ m : Fin 256, bits .or .u8 ((m.val : Nat) : Int) 128 = ((m.val : Nat) : Int) % 128 + 128 := by decide +kernel
  exact key ⟨n, hn⟩
theorem putU_loop (k : Nat) : ∀ (l : List Int) (x : Int), 0 ≤ x → (uL x).length ≤ k → l.length + (uL x).length ≤ 1000000000 → leb_PutU.l0 k l x = some (l ++ uL x) := by
  induction k with
  | zero => intro l x _ h _; have := uL_pos x; omega
  | succ k ih =>
    intro l x h0 hk hl
    simp only [leb_PutU.l0]
    by_cases h : x < 128
    · rw [uL_small h] at hl ⊢
      simp only [List.length_singleton] at hl
      rw [if_neg (by omega), if_pos (by omega), show x % 256 = x by omega]
    · rw [uL_big (by omega)] at hk hl ⊢
      simp only [List.length_cons] at hk hl
      rw [if_pos (by omega), if_pos (by omega), or128' _ (by omega) (by omega), show x % 256 % 128 + 128 = x % 128 + 128 by omega]
      rw [ih _ _ (by omega) (by omega) (by simp; omega)]
      simp
theorem uL_max (x : Int) (h0 : 0 ≤ x) (h : x ≤ 18446744073709551615) : (uL x).length ≤ 10 := uL_len10 h0 h
theorem uL_le5 (x : Int) (h0 : 0 ≤ x) (h : x ≤ 4294967295) : (uL x).length ≤ 5 := uL_len 4 x h0 (by omega)
theorem putU_some {l : List Int} {x : Int} {k : Nat} (h0 : 0 ≤ x) (h : x ≤ 18446744073709551615) (hk : 10 ≤ k) (hl : l.length ≤ 900000000) : leb_PutU.f k l x = some (l ++ uL x) := by
  have := uL_max x h0 h
  exact putU_loop k l x h0 (by omega) (by omega)
theorem w64_id {x : Int} (h0 : 0 ≤ x) (h : x ≤ 18446744073709551615) : IntKind.u64.wrap x = x := by rw [wu]; omega

/-- is it a type of a reference, of a value? -/
theorem ref_some (v : Int) : wtype_Val_Ref.f v = some (decide (v = 112) || decide (v = 111)) := by
  unfold wtype_Val_Ref.f
  by_cases h : v = 112
  · simp [h]
  · simp only [if_neg h]; simp [h]; rw [Bool.eq_iff_iff]; simp
def refV (v : Int) : Bool := decide (v = 112) || decide (v = 111)
def valV (v : Int) : Bool := (decide (123 ≤ v) && decide (v ≤ 127)) || refV v
theorem rref_some (v : Int) : dobbyref05_Ref.f v = some (refV v) := ref_some v
theorem val_some (v : Int) : wtype_Val_Right.f v = some (valV v) := by
  unfold wtype_Val_Right.f valV
  rw [ref_some]
  by_cases h : 123 ≤ v <;> by_cases h2 : v ≤ 127 <;> simp [h, h2, refV]
theorem rval_some (v : Int) : dobbyref05_Val.f v = some (valV v) := val_some v
theorem rvals_loop (s : ByteArray) (hs : s.size ≤ 1000000000) (d : Nat) : ∀ (i k : Nat), i + d = s.size → d < k → dobbyref05_Vals.l0 k s i = some (((bytesOf s).drop i).all valV) := by
  induction d with
  | zero =>
    intro i k hi hk
    obtain ⟨k, rfl⟩ : ∃ m, k = m + 1 := ⟨k - 1, by omega⟩
    simp only [dobbyref05_Vals.l0]
    rw [if_neg (by omega), List.drop_eq_nil_of_le (by rw [bytesOf_length]; omega)]; rfl
  | succ d ih =>
    intro i k hi hk
    obtain ⟨k, rfl⟩ : ∃ m, k = m + 1 := ⟨k - 1, by omega⟩
    have hlt : i < (bytesOf s).length := by rw [bytesOf_length]; omega
    have e : bt s (i : Int) = (bytesOf s)[i] := by
      rw [← rd_bytesOf, rd, Int.toNat_natCast, List.getD_eq_getElem?_getD, List.getElem?_eq_getElem hlt]; rfl
    simp only [dobbyref05_Vals.l0]
    rw [if_pos (by omega), if_pos (by omega), rval_some, Option.bind_some, e, List.drop_eq_getElem_cons hlt, List.all_cons]
    rcases hv : valV (bytesOf s)[i] with _ | _
    · simp
    · simp only [if_true, Bool.true_and]
      rw [show wrap64 ((i : Int) + 1) = ((i + 1 : Nat) : Int) by unfold wrap64; omega]
      exact ih (i + 1) k (by omega) (by omega)
def valsB (s : ByteArray) : Bool := (bytesOf s).all valV
theorem rvals_some (s : ByteArray) (hs : s.size ≤ 1000000000) : dobbyref05_Vals.f (s.size + 1) s = some (valsB s) := by
  have := rvals_loop s hs s.size 0 (s.size + 1) (by omega) (by omega)
  rw [List.drop_zero] at this
  exact this
theorem vals_loop (s : ByteArray) (hs : s.size ≤ 1000000000) (d : Nat) : ∀ (i k : Nat), i + d = s.size → d < k → dobbylaw05_Vals.l0 k s ((bytesOf s).take i) i = some (bytesOf s) := by
  induction d with
  | zero =>
    intro i k hi hk
    obtain ⟨k, rfl⟩ : ∃ m, k = m + 1 := ⟨k - 1, by omega⟩
    simp only [dobbylaw05_Vals.l0]
    rw [if_neg (by omega), List.take_of_length_le (by rw [bytesOf_length]; omega)]
  | succ d ih =>
    intro i k hi hk
    obtain ⟨k, rfl⟩ : ∃ m, k = m + 1 := ⟨k - 1, by omega⟩
    have hlt : i < (bytesOf s).length := by rw [bytesOf_length]; omega
    have e : bt s (i : Int) = (bytesOf s)[i] := by
      rw [← rd_bytesOf, rd, Int.toNat_natCast, List.getD_eq_getElem?_getD, List.getElem?_eq_getElem hlt]; rfl
    simp only [dobbylaw05_Vals.l0]
    rw [if_pos (by omega), if_pos (by omega), if_pos (by rw [List.length_take]; omega), e, show (bytesOf s).take i ++ [(bytesOf s)[i]] = (bytesOf s).take (i + 1) from List.take_append_getElem hlt,
      show wrap64 ((i : Int) + 1) = ((i + 1 : Nat) : Int) by unfold wrap64; omega]
    exact ih (i + 1) k (by omega) (by omega)
theorem ovals_some (s : ByteArray) (hs : s.size ≤ 1000000000) (k : Nat) (hk : s.size < k) : dobbylaw05_Vals.f k s = some (bytesOf s) := by
  have := vals_loop s hs s.size 0 k (by omega) (by omega)
  rw [List.take_zero] at this
  exact this

theorem limRight_some (m : Bool) (a b : Int) : wtype_Limits_Right.f m a b = some (m || b == 0) := by
  unfold wtype_Limits_Right.f; cases m <;> simp
theorem tabRight_some (v : Int) (m : Bool) (a b : Int) : wtype_Table_Right.f v m a b = some (refV v && (m || b == 0)) := by
  unfold wtype_Table_Right.f
  rw [ref_some, Option.bind_some, limRight_some]
  show (if refV v = true then _ else _) = _
  rcases refV v with _ | _ <;> simp
theorem globRight_some (v : Int) (m : Bool) : wtype_Global_Right.f v m = some (valV v) := by
  unfold wtype_Global_Right.f; rw [val_some]; rfl

theorem same_loop (a b : List Int) (e : a.length = b.length) (h : a.length ≤ 1000000000) (d : Nat) : ∀ (i k : Nat), i + d = a.length → d < k → wtype_Val_83.l0 k a b a.length i = some (decide (a.drop i = b.drop i)) := by
  induction d with
  | zero =>
    intro i k hi hk
    obtain ⟨k, rfl⟩ : ∃ m, k = m + 1 := ⟨k - 1, by omega⟩
    simp only [wtype_Val_83.l0]
    rw [if_neg (by omega), List.drop_eq_nil_of_le (by omega), List.drop_eq_nil_of_le (by omega)]; simp
  | succ d ih =>
    intro i k hi hk
    obtain ⟨k, rfl⟩ : ∃ m, k = m + 1 := ⟨k - 1, by omega⟩
    have hlt : i < a.length := by omega
    have hlt2 : i < b.length := by omega
    have ea : rd a (i : Int) = a[i] := by rw [rd, Int.toNat_natCast, List.getD_eq_getElem?_getD, List.getElem?_eq_getElem hlt]; rfl
    have eb : rd b (i : Int) = b[i] := by rw [rd, Int.toNat_natCast, List.getD_eq_getElem?_getD, List.getElem?_eq_getElem hlt2]; rfl
    simp only [wtype_Val_83.l0]
    rw [if_pos (by omega), if_pos (by omega), if_pos (by omega), if_pos (by omega), ea, eb, List.drop_eq_getElem_cons hlt, List.drop_eq_getElem_cons hlt2,
      show wrap64 ((i : Int) + 1) = ((i + 1 : Nat) : Int) by unfold wrap64; omega]
    by_cases hv : a[i] = b[i]
    · rw [if_pos hv, ih (i + 1) k (by omega) (by omega)]; simp only [hv, List.cons.injEq, true_and]
    · rw [if_neg hv]; simp only [List.cons.injEq, hv, false_and, decide_false]
theorem eq_some (a b : List Int) (h : a.length ≤ 1000000000) (k : Nat) (hk : a.length < k) : wtype_Val_83.f k a b = some (decide (a = b)) := by
  unfold wtype_Val_83.f
  by_cases e : a.length = b.length
  · rw [if_pos (by omega)]
    have := same_loop a b e h a.length 0 k (by omega) (by omega)
    simpa using this
  · rw [if_neg (by omega)]
    have : a ≠ b := fun q => e (by rw [q])
    simp [this]
theorem fsame_some (a b c d : List Int) (h : a.length ≤ 1000000000) (h2 : b.length ≤ 1000000000) (k : Nat) (hk : a.length < k) (hk2 : b.length < k) : wtype_Func_Same.f k a b c d = some (decide (a = c ∧ b = d)) := by
  unfold wtype_Func_Same.f
  rw [eq_some a c h k hk, Option.bind_some, eq_some b d h2 k hk2]
  by_cases e : a = c <;> by_cases e2 : b = d <;> simp [e, e2]
end Go.Proofs.YtiohiiekaofkbaaDoor

/- The types' bytes: what is put. -/
namespace Go.Proofs.YtiohiiekaofkbaaDoor
set_option linter.unusedVariables false
set_option linter.unusedSimpArgs false
open Go.RowKit Go.Proofs.YtiohiiekaofkbaaDoor.PWtypePuts Go.Proofs.YtiohiiekaofkbaaDoorW.PrintWords

/-- a list's bytes -/
def uvB (l : List Int) : List Int := uL l.length ++ l
theorem putVals_loop (l : List Int) (h : l.length ≤ 1000000000) (d : Nat) : ∀ (i k : Nat) (b : List Int), i + d = l.length → d < k → b.length + d ≤ 2000000000 → wtype_PutVals.l0 k b l l.length i = some (b ++ l.drop i) := by
  induction d with
  | zero =>
    intro i k b hi hk _
    obtain ⟨k, rfl⟩ : ∃ m, k = m + 1 := ⟨k - 1, by omega⟩
    simp only [wtype_PutVals.l0]
    rw [if_neg (by omega), List.drop_eq_nil_of_le (by omega), List.append_nil]
  | succ d ih =>
    intro i k b hi hk hb
    obtain ⟨k, rfl⟩ : ∃ m, k = m + 1 := ⟨k - 1, by omega⟩
    have hlt : i < l.length := by omega
    have ea : rd l (i : Int) = l[i] := by rw [rd, Int.toNat_natCast, List.getD_eq_getElem?_getD, List.getElem?_eq_getElem hlt]; rfl
    simp only [wtype_PutVals.l0]
    rw [if_pos (by omega), if_pos (by omega), if_pos (by omega), if_pos (by omega), ea, show wrap64 ((i : Int) + 1) = ((i + 1 : Nat) : Int) by unfold wrap64; omega,
      ih (i + 1) k _ (by omega) (by omega) (by rw [List.length_append]; simp; omega), List.drop_eq_getElem_cons hlt, List.append_assoc]
    rfl
theorem putVals_some (b l : List Int) (h : l.length ≤ 100000000) (hb : b.length ≤ 800000000) (k : Nat) (hk : l.length + 10 < k) : wtype_PutVals.f k b l = some (b ++ uvB l) := by
  have hm := uL_max (l.length : Int) (by omega) (by omega)
  unfold wtype_PutVals.f
  rw [w64_id (by omega) (by omega), putU_some (by omega) (by omega) (by omega) (by omega), Option.bind_some]
  have := putVals_loop l (by omega) l.length 0 k (b ++ uL (l.length : Int)) (by omega) (by omega) (by rw [List.length_append]; omega)
  rw [List.drop_zero] at this
  rw [show ((0 : Nat) : Int) = 0 from rfl] at this
  rw [this, uvB, List.append_assoc]
theorem uvB_len (l : List Int) (h : l.length ≤ 1000000000) : (uvB l).length ≤ l.length + 10 := by
  have hm := uL_max (l.length : Int) (by omega) (by omega)
  rw [uvB, List.length_append]; omega
/-- a function type's bytes -/
def funcB (p r : List Int) : List Int := [96] ++ uvB p ++ uvB r
theorem funcPut_some (p r b : List Int) (hp : p.length ≤ 100000000) (hr : r.length ≤ 100000000) (hb : b.length ≤ 100000000) (k : Nat) (hk : p.length + 10 < k) (hk2 : r.length + 10 < k) : wtype_Func_Put.f k p r b = some (b ++ funcB p r) := by
  have := uvB_len p (by omega)
  unfold wtype_Func_Put.f
  rw [if_pos (by omega), putVals_some _ p hp (by rw [List.length_append]; simp; omega) k hk, Option.bind_some, putVals_some _ r hr (by rw [List.length_append, List.length_append]; simp; omega) k hk2, Option.bind_some, funcB]
  simp only [List.append_assoc]
/-- limits' bytes -/
def bitB (m : Bool) : Int := if m then 1 else 0
def lputB (m : Bool) (a b : Int) : List Int := [bitB m] ++ uL a ++ (if m then uL b else [])
theorem lputB_len (m : Bool) (a b : Int) (a0 : 0 ≤ a) (a1 : a ≤ 4294967295) (b0 : 0 ≤ b) (b1 : b ≤ 4294967295) : (lputB m a b).length ≤ 11 := by
  have := uL_le5 a a0 a1
  have := uL_le5 b b0 b1
  unfold lputB; split <;> simp <;> omega
theorem limPut_some (m : Bool) (a b : Int) (l : List Int) (a0 : 0 ≤ a) (a1 : a ≤ 4294967295) (b0 : 0 ≤ b) (b1 : b ≤ 4294967295) (hl : l.length ≤ 800000000) (k : Nat) (hk : 10 ≤ k) : wtype_Limits_Put.f k m a b l = some (l ++ lputB m a b) := by
  have := uL_le5 a a0 a1
  unfold wtype_Limits_Put.f wtype_bit.f lputB bitB
  cases m
  · simp only [Bool.false_eq_true, if_false, Option.bind_some, if_pos (show l.length < 140737488355328 by omega)]
    rw [w64_id a0 (by omega), putU_some a0 (by omega) hk (by rw [List.length_append]; simp; omega), Option.bind_some]; simp
  · simp only [if_true, Option.bind_some, if_pos (show l.length < 140737488355328 by omega)]
    rw [w64_id a0 (by omega), putU_some a0 (by omega) hk (by rw [List.length_append]; simp; omega), Option.bind_some, w64_id b0 (by omega), putU_some b0 (by omega) hk (by rw [List.length_append, List.length_append]; simp; omega), Option.bind_some]; simp
theorem tabPut_some (v : Int) (m : Bool) (a b : Int) (l : List Int) (a0 : 0 ≤ a) (a1 : a ≤ 4294967295) (b0 : 0 ≤ b) (b1 : b ≤ 4294967295) (hl : l.length ≤ 700000000) (k : Nat) (hk : 10 ≤ k) : wtype_Table_Put.f k v m a b l = some (l ++ ([v] ++ lputB m a b)) := by
  unfold wtype_Table_Put.f
  rw [if_pos (by omega), limPut_some m a b _ a0 a1 b0 b1 (by rw [List.length_append]; simp; omega) k hk, Option.bind_some, List.append_assoc]
theorem globPut_some (v : Int) (m : Bool) (l : List Int) (hl : l.length ≤ 800000000) : wtype_Global_Put.f v m l = some (l ++ [v, bitB m]) := by
  unfold wtype_Global_Put.f wtype_bit.f bitB
  cases m
  · simp only [Bool.false_eq_true, if_false, Option.bind_some]; rw [if_pos (by simp; omega)]
  · simp only [if_true, Option.bind_some]; rw [if_pos (by simp; omega)]

/-- a number's bytes, in some more than it needs, 5 at most -/
def numB (v m : Int) : List Int := if 5 < (rU v m).length then rU v (5 - (uL v).length) else rU v m
theorem rU_len {v m : Int} (h0 : 0 ≤ v) (h1 : v ≤ 4294967295) (hm : 0 ≤ m) : ((rU v m).length : Int) = (uL v).length + m := by
  obtain ⟨D, y, _, _, e⟩ := rU_digits v m h0 hm
  omega
theorem numB_zero {v : Int} (h0 : 0 ≤ v) (h1 : v ≤ 4294967295) : numB v 0 = uL v := by
  have := uL_le5 v h0 h1
  rw [numB, rU_zero v h0, if_neg (by omega)]
theorem numB_len {v m : Int} (h0 : 0 ≤ v) (h1 : v ≤ 4294967295) (hm : 0 ≤ m) : (numB v m).length ≤ 5 := by
  unfold numB
  split
  · have q := uL_le5 v h0 h1
    have := rU_len (v := v) (m := 5 - (uL v).length) h0 h1 (by omega)
    omega
  · omega
theorem rputU_some {v m : Int} (k : Nat) (h0 : 0 ≤ v) (h1 : v ≤ 4294967295) (hm : 0 ≤ m) (hm2 : m ≤ 10) : dobbyref01_PutU.f k [] v m = some (rU v m) := by
  unfold dobbyref01_PutU.f; rw [if_pos (by omega)]
theorem rnum_some {v m : Int} (k : Nat) (h0 : 0 ≤ v) (h1 : v ≤ 4294967295) (hm : 0 ≤ m) (hm2 : m ≤ 10) : dobbyref05_Num.f k v m = some (strOfNums (numB v m)) := by
  have h5 := uL_le5 v h0 h1
  have hp := uL_pos v
  unfold dobbyref05_Num.f numB
  rw [w64_id h0 (by omega), rputU_some k h0 h1 hm hm2, Option.bind_some]
  by_cases hb : 5 < (rU v m).length
  · rw [if_pos (by omega), if_pos hb, rputU_some k h0 h1 (by omega) (by omega), Option.bind_some, rU_zero v h0, show wrap64 (5 - ((uL v).length : Int)) = 5 - ((uL v).length : Int) by unfold wrap64; omega,
      rputU_some k h0 h1 (by omega) (by omega), Option.bind_some]
  · rw [if_neg (by omega), if_neg hb]
theorem str_app (a b : List Int) : strOfNums a ++ strOfNums b = strOfNums (a ++ b) := by
  apply ByteArray.ext
  simp [strOfNums, ByteArray.data_append]
theorem str_bytes (s : ByteArray) : strOfNums (bytesOf s) = s := by
  apply ByteArray.ext
  simp only [strOfNums, bytesOf, List.map_map]
  have : ∀ l : List UInt8, l.map ((fun n : Int => UInt8.ofNat n.toNat) ∘ fun b : UInt8 => (b.toNat : Int)) = l := by
    intro l
    conv => rhs; rw [← List.map_id l]
    exact List.map_congr_left fun x _ => by simp
  rw [this]
theorem str_size (l : List Int) : (strOfNums l).size = l.length := by simp [strOfNums, ByteArray.size]
/-- a list's bytes, its count in some more -/
def valsM (s : ByteArray) (m : Int) : List Int := numB s.size m ++ bytesOf s
theorem valsM_len (s : ByteArray) {m : Int} (hs : s.size ≤ 1000000000) (hm : 0 ≤ m) : (valsM s m).length ≤ s.size + 5 := by
  have := numB_len (v := s.size) (m := m) (by omega) (by omega) hm
  rw [valsM, List.length_append, bytesOf_length]; omega
theorem rputVals_some (s : ByteArray) {m : Int} (k : Nat) (hs : s.size ≤ 1000000000) (hm : 0 ≤ m) (hm2 : m ≤ 10) : dobbyref05_PutVals.f k s m = some (strOfNums (valsM s m)) := by
  have := numB_len (v := s.size) (m := m) (by omega) (by omega) hm
  unfold dobbyref05_PutVals.f
  rw [show (s.size : Int) % 4294967296 = s.size by omega, rnum_some k (by omega) (by omega) hm hm2, Option.bind_some, if_pos (by rw [str_size]; omega), valsM, ← str_app, str_bytes]
theorem lit1 (a : Int) (b : UInt8) (h : UInt8.ofNat a.toNat = b) : (⟨#[b]⟩ : ByteArray) = strOfNums [a] := by subst h; rfl
/-- a function type's bytes, the counts in some more -/
def funcM (p r : ByteArray) (m : Int) : List Int := [96] ++ valsM p m ++ valsM r m
theorem rputFunc_some (p r : ByteArray) {m : Int} (k : Nat) (hp : p.size ≤ 1000000000) (hr : r.size ≤ 1000000000) (hm : 0 ≤ m) (hm2 : m ≤ 10) : dobbyref05_PutFunc.f k p r m = some (strOfNums (funcM p r m)) := by
  have h1 := valsM_len p hp hm
  have h2 := valsM_len r hr hm
  unfold dobbyref05_PutFunc.f
  rw [rputVals_some p k hp hm hm2, Option.bind_some, if_pos (by rw [str_size]; omega), rputVals_some r k hr hm hm2, Option.bind_some, lit1 96 96 (by decide), str_app, if_pos (by rw [str_size, str_size, List.length_append]; simp; omega), str_app, funcM]
/-- limits' bytes, the numbers in some more -/
def limM (b : Bool) (mn mx m : Int) : List Int := [bitB b] ++ numB mn m ++ (if b then numB mx m else [])
theorem limM_len (b : Bool) {mn mx m : Int} (h0 : 0 ≤ mn) (h1 : mn ≤ 4294967295) (g0 : 0 ≤ mx) (g1 : mx ≤ 4294967295) (hm : 0 ≤ m) : (limM b mn mx m).length ≤ 11 := by
  have := numB_len (v := mn) h0 h1 hm
  have := numB_len (v := mx) g0 g1 hm
  unfold limM; split <;> simp <;> omega
theorem rbit_some (b : Bool) : dobbyref05_bit.f b = some (strOfNums [bitB b]) := by cases b <;> rfl
theorem rputLimits_some (b : Bool) {mn mx m : Int} (k : Nat) (h0 : 0 ≤ mn) (h1 : mn ≤ 4294967295) (g0 : 0 ≤ mx) (g1 : mx ≤ 4294967295) (hm : 0 ≤ m) (hm2 : m ≤ 10) : dobbyref05_PutLimits.f k b mn mx m = some (strOfNums (limM b mn mx m)) := by
  have := numB_len (v := mn) h0 h1 hm
  have := numB_len (v := mx) g0 g1 hm
  unfold dobbyref05_PutLimits.f limM
  rw [rbit_some, Option.bind_some, rnum_some k h0 h1 hm hm2, Option.bind_some, if_pos (by rw [str_size, str_size]; simp; omega), str_app]
  cases b
  · simp
  · rw [if_pos rfl, rnum_some k g0 g1 hm hm2, Option.bind_some, if_pos (by rw [str_size, str_size, List.length_append]; simp; omega), str_app]; simp
theorem rputTable_some (v : Int) (b : Bool) {mn mx m : Int} (k : Nat) (h0 : 0 ≤ mn) (h1 : mn ≤ 4294967295) (g0 : 0 ≤ mx) (g1 : mx ≤ 4294967295) (hm : 0 ≤ m) (hm2 : m ≤ 10) : dobbyref05_PutTable.f k v b mn mx m = some (strOfNums ([v] ++ limM b mn mx m)) := by
  have := limM_len b h0 h1 g0 g1 hm
  unfold dobbyref05_PutTable.f
  rw [Option.bind_some, rputLimits_some b k h0 h1 g0 g1 hm hm2, Option.bind_some, if_pos (by rw [str_size, str_size]; simp; omega), str_app]
theorem rputGlobal_some (v : Int) (b : Bool) : dobbyref05_PutGlobal.f v b = some (strOfNums [v, bitB b]) := by
  unfold dobbyref05_PutGlobal.f
  rw [Option.bind_some, rbit_some, Option.bind_some, if_pos (by rw [str_size, str_size]; simp), str_app]; rfl
theorem valsM_zero (s : ByteArray) (hs : s.size ≤ 1000000000) : valsM s 0 = uvB (bytesOf s) := by
  rw [valsM, uvB, numB_zero (by omega) (by omega), bytesOf_length]
theorem funcM_zero (p r : ByteArray) (hp : p.size ≤ 1000000000) (hr : r.size ≤ 1000000000) : funcM p r 0 = funcB (bytesOf p) (bytesOf r) := by
  rw [funcM, funcB, valsM_zero p hp, valsM_zero r hr]
theorem limM_zero (b : Bool) {mn mx : Int} (h0 : 0 ≤ mn) (h1 : mn ≤ 4294967295) (g0 : 0 ≤ mx) (g1 : mx ≤ 4294967295) : limM b mn mx 0 = lputB b mn mx := by
  rw [limM, lputB, numB_zero h0 h1, numB_zero g0 g1]
end Go.Proofs.YtiohiiekaofkbaaDoor

/- Are types right: slices.IndexFunc, slices.ContainsFunc, wtype.rights, Func.Right. -/
namespace Go.Proofs.YtiohiiekaofkbaaDoor
set_option linter.unusedVariables false
set_option linter.unusedSimpArgs false
open Go.RowKit Go.Proofs.YtiohiiekaofkbaaDoor.PWtypePuts Go.Proofs.YtiohiiekaofkbaaDoorW.PrintWords

theorem vright_calls (v : Int) (w : World) : Calls Tryd.prog 29 #[.int .u8 v] w fun e w' => e = .returned (.bool (valV v)) ∧ Below w.heap.size w w' :=
  (wtype_Val_Right.calls v _ w (val_some v)).mono fun _ _ ⟨h1, h2⟩ => ⟨h1, h2.below⟩
set_option maxHeartbeats 4000000 in
theorem rights1_walk (v : Int) (w : World) : Calls Tryd.prog 136 #[.int .u8 v] w fun e w' => e = .returned (.bool (!(valV v))) ∧ Below w.heap.size w w' := by
  go_enter Tryd.func136, Tryd.ntmps136
  go_wp2_with (first | (go_at_call 29; (with_reducible refine (vright_calls v _).mono ?_); rintro e w' ⟨rfl, hb1⟩))
  go_ret
  exact ⟨rfl, hb1⟩
theorem rdV {l : List Int} {i : Nat} (h : i < l.length) : rd l (i : Int) = l[i] := by rw [rd, Int.toNat_natCast, List.getD_eq_getElem?_getD, List.getElem?_eq_getElem h]; rfl
set_option maxHeartbeats 4000000 in
theorem indexVal_walk (A : Option Addr) (c : Nat) (l : List Int) (w : World) (hC : Kd.C (Kd.int .u8) w A l.length l) (hlen : l.length ≤ 1000000000) :
    Calls Tryd.prog 161 #[.slice A l.length c, .func (.func 136) #[] #[]] w fun e w' => ∃ r, e = .returned (.int .i64 r) ∧ ((l.all valV = true ∧ r = -1) ∨ (l.all valV = false ∧ 0 ≤ r)) ∧ Below w.heap.size w w' := by
  have HC := hid hC
  clear hC
  go_enter Tryd.func161, Tryd.ntmps161
  go_wp2
  go_loopw [5, 8] (fun _ v8 wr => ∃ i : Nat, v8 = .int .i64 i ∧ i ≤ l.length ∧ Hid ((l.take i).all valV = true) ∧ w.heap.size ≤ wr.heap.size ∧ Hid (Below w.heap.size w wr)) (fun _ v8 _ => l.length - (intOf v8).toNat)
  case atStart => exact ⟨0, by go_num, by omega, hid rfl, Nat.le_refl _, Below.refl _ _⟩
  case round =>
    obtain ⟨i, rfl, hi1, HA, hsz, HB⟩ := hrel
    by_cases hlt : i < l.length
    · have hcr := Kd.C_below HC.out HB.out
      obtain ⟨ad, rfl, e1⟩ := Kd.at_int hcr (i : Int) (by omega) (by omega)
      rw [Int.toNat_natCast, rdV hlt] at e1
      clear hcr
      have HT := hid (show (l.take (i + 1)).all valV = ((l.take i).all valV && valV l[i]) by rw [← List.take_append_getElem hlt, List.all_append]; simp)
      have HN := hid (fun (hq : valV l[i] = false) => show l.all valV = false by
        rw [Bool.eq_false_iff]; intro h; rw [List.all_eq_true] at h; rw [h _ (List.getElem_mem hlt)] at hq; cases hq)
      obtain ⟨x, hx⟩ : ∃ x, x = l[i] := ⟨_, rfl⟩
      rw [← hx] at e1 HT HN
      clear hx
      have HW := hid (fun W => rights1_walk x W)
      rcases hv : valV x with _ | _
      · rw [hv] at HW
        have HV := hid hv
        clear hv
        go_wp2_with (first | (go_at_call 136; (with_reducible refine (HW.out _).mono ?_); rintro e w' ⟨rfl, hb1⟩; (first | have hq1 := hz1 | have hq1 := True.intro); (first | have hq0 := hz0 | have hq0 := True.intro); obtain ⟨hcc, hff⟩ := bcell hb1; have hz1 := hb1.size; (try simp at hz1); (try have hy1 := Nat.lt_of_lt_of_le hq1 hz1); (try have hy0 := Nat.lt_of_lt_of_le hq0 hz1); (try replace hz1 := Nat.lt_of_succ_le hz1); (try have hz0 := Nat.lt_of_succ_lt hz1)))
        go_ret
        exact ⟨i, rfl, .inr ⟨HN.out HV.out, by omega⟩, HB.out.trans (hb1.mono hsz)⟩
      · rw [hv] at HW
        have HV := hid hv
        clear hv
        go_wp2_with (first | (go_at_call 136; (with_reducible refine (HW.out _).mono ?_); rintro e w' ⟨rfl, hb1⟩; (first | have hq1 := hz1 | have hq1 := True.intro); (first | have hq0 := hz0 | have hq0 := True.intro); obtain ⟨hcc, hff⟩ := bcell hb1; have hz1 := hb1.size; (try simp at hz1); (try have hy1 := Nat.lt_of_lt_of_le hq1 hz1); (try have hy0 := Nat.lt_of_lt_of_le hq0 hz1); (try replace hz1 := Nat.lt_of_succ_le hz1); (try have hz0 := Nat.lt_of_succ_lt hz1)))
        go_roundw
        case rel => exact ⟨i + 1, by go_num, by omega, hid (by rw [HT.out, HA.out, HV.out]; rfl), by omega, HB.out.trans (hb1.mono hsz)⟩
        case measure => simp [intOf]; omega
    · go_wp2
      go_ret
      exact ⟨-1, rfl, .inl ⟨by have := HA.out; rwa [List.take_of_length_le (by omega)] at this, rfl⟩, HB.out⟩
set_option maxHeartbeats 4000000 in
theorem containsVal_walk (A : Option Addr) (c : Nat) (l : List Int) (w : World) (hC : Kd.C (Kd.int .u8) w A l.length l) (hlen : l.length ≤ 1000000000) :
    Calls Tryd.prog 135 #[.slice A l.length c, .func (.func 136) #[] #[]] w fun e w' => e = .returned (.bool (!(l.all valV))) ∧ Below w.heap.size w w' := by
  have HI := hid (fun W (h : Kd.C (Kd.int .u8) W A l.length l) => indexVal_walk A c l W h hlen)
  have HC := hid hC
  clear hC
  go_enter Tryd.func135, Tryd.ntmps135
  go_wp2_with (first | (go_at_call 161; (with_reducible refine (HI.out _ HC.out).mono ?_); rintro e w' ⟨r, rfl, hr, hb1⟩; have HR := hid hr; clear hr; (first | have hq1 := hz1 | have hq1 := True.intro); (first | have hq0 := hz0 | have hq0 := True.intro); obtain ⟨hcc, hff⟩ := bcell hb1; have hz1 := hb1.size; (try simp at hz1); (try have hy1 := Nat.lt_of_lt_of_le hq1 hz1); (try have hy0 := Nat.lt_of_lt_of_le hq0 hz1); (try replace hz1 := Nat.lt_of_succ_le hz1); (try have hz0 := Nat.lt_of_succ_lt hz1)))
  go_ret
  refine ⟨ret_bool ?_, hb1⟩
  rcases HR.out with ⟨h1, h2⟩ | ⟨h1, h2⟩
  · subst h2; rw [h1]; rfl
  · rw [h1]; simp; omega
set_option maxHeartbeats 4000000 in
theorem rights_walk (A : Option Addr) (c : Nat) (l : List Int) (w : World) (hC : Kd.C (Kd.int .u8) w A l.length l) (hlen : l.length ≤ 1000000000) :
    Calls Tryd.prog 82 #[.slice A l.length c] w fun e w' => e = .returned (.bool (l.all valV)) ∧ Below w.heap.size w w' := by
  have HI := hid (containsVal_walk A c l w hC hlen)
  clear hC
  go_enter Tryd.func82, Tryd.ntmps82
  go_wp2_with (first | (go_at_call 135; (with_reducible refine HI.out.mono ?_); rintro e w' ⟨rfl, hb1⟩; (first | have hq1 := hz1 | have hq1 := True.intro); (first | have hq0 := hz0 | have hq0 := True.intro); obtain ⟨hcc, hff⟩ := bcell hb1; have hz1 := hb1.size; (try simp at hz1); (try have hy1 := Nat.lt_of_lt_of_le hq1 hz1); (try have hy0 := Nat.lt_of_lt_of_le hq0 hz1); (try replace hz1 := Nat.lt_of_succ_le hz1); (try have hz0 := Nat.lt_of_succ_lt hz1)))
  go_ret
  exact ⟨ret_bool (by simp), hb1⟩
set_option maxHeartbeats 4000000 in
theorem fright_walk (A B : Option Addr) (c d : Nat) (l m : List Int) (w : World) (hC : Kd.C (Kd.int .u8) w A l.length l) (hD : Kd.C (Kd.int .u8) w B m.length m) (hlen : l.length ≤ 1000000000) (hlen2 : m.length ≤ 1000000000) :
    Calls Tryd.prog 24 #[.agg #[.slice A l.length c, .slice B m.length d]] w fun e w' => e = .returned (.bool (l.all valV && m.all valV)) ∧ Below w.heap.size w w' := by
  have H1 := hid (fun W (h : Below w.heap.size w W) => rights_walk A c l W (Kd.C_below hC h) hlen)
  have H2 := hid (fun W (h : Below w.heap.size w W) => rights_walk B d m W (Kd.C_below hD h) hlen2)
  clear hC hD
  rcases hv : l.all valV with _ | _
  · rw [hv] at H1
    clear hv
    go_enter Tryd.func24, Tryd.ntmps24
    go_wp2_with (first | (go_at_call 82; (with_reducible refine (H1.out _ (by repeat (first | exact Below.refl _ _ | assumption | refine Below.alloc ?_ (by first | exact Nat.le_refl _ | (simp; done) | (simp; omega) | omega) _ | refine Below.drew ?_ | refine Below.setCell ?_ (by first | exact Nat.le_refl _ | (simp; done) | (simp; omega) | omega) _ | refine below_call ?_ (by assumption) (by first | exact Nat.le_refl _ | (simp; done) | (simp; omega) | omega)))).mono ?_); rintro e w1 ⟨rfl, hb1⟩))
    go_ret
    exact ⟨rfl, (by repeat (first | exact Below.refl _ _ | assumption | refine Below.alloc ?_ (by first | exact Nat.le_refl _ | (simp; done) | (simp; omega) | omega) _ | refine Below.drew ?_ | refine Below.setCell ?_ (by first | exact Nat.le_refl _ | (simp; done) | (simp; omega) | omega) _ | refine below_call ?_ (by assumption) (by first | exact Nat.le_refl _ | (simp; done) | (simp; omega) | omega)))⟩
  · rw [hv] at H1
    clear hv
    go_enter Tryd.func24, Tryd.ntmps24
    go_wp2_with (first | (go_at_call 82; (with_reducible refine (H1.out _ (by repeat (first | exact Below.refl _ _ | assumption | refine Below.alloc ?_ (by first | exact Nat.le_refl _ | (simp; done) | (simp; omega) | omega) _ | refine Below.drew ?_ | refine Below.setCell ?_ (by first | exact Nat.le_refl _ | (simp; done) | (simp; omega) | omega) _ | refine below_call ?_ (by assumption) (by first | exact Nat.le_refl _ | (simp; done) | (simp; omega) | omega)))).mono ?_); rintro e w1 ⟨rfl, hb1⟩; (first | have hq1 := hz1 | have hq1 := True.intro); (first | have hq0 := hz0 | have hq0 := True.intro); obtain ⟨hcc, hff⟩ := bcell hb1; have hz1 := hb1.size; (try simp at hz1); (try have hy1 := Nat.lt_of_lt_of_le hq1 hz1); (try have hy0 := Nat.lt_of_lt_of_le hq0 hz1); (try replace hz1 := Nat.lt_of_succ_le hz1); (try have hz0 := Nat.lt_of_succ_lt hz1)) | (go_at_call 82; (with_reducible refine (H2.out _ (by repeat (first | exact Below.refl _ _ | assumption | refine Below.alloc ?_ (by first | exact Nat.le_refl _ | (simp; done) | (simp; omega) | omega) _ | refine Below.drew ?_ | refine Below.setCell ?_ (by first | exact Nat.le_refl _ | (simp; done) | (simp; omega) | omega) _ | refine below_call ?_ (by assumption) (by first | exact Nat.le_refl _ | (simp; done) | (simp; omega) | omega)))).mono ?_); rintro e w2 ⟨rfl, hb2⟩))
    go_ret
    exact ⟨ret_bool (by simp), (by repeat (first | exact Below.refl _ _ | assumption | refine Below.alloc ?_ (by first | exact Nat.le_refl _ | (simp; done) | (simp; omega) | omega) _ | refine Below.drew ?_ | refine Below.setCell ?_ (by first | exact Nat.le_refl _ | (simp; done) | (simp; omega) | omega) _ | refine below_call ?_ (by assumption) (by first | exact Nat.le_refl _ | (simp; done) | (simp; omega) | omega)))⟩
end Go.Proofs.YtiohiiekaofkbaaDoor
