/- What is put: numbers, texts, lists of names, as lists of bytes. -/
import Derived.Test.YtiohiiekaofkbaaM4
import Derived.Test.YtiohiiekaofkbaaQ10
import Derived.Test.YtiohiiekaofkbaaG0
namespace Go.Proofs.Ytiohiiekaofkbaa
set_option linter.unusedVariables false
set_option linter.unusedSimpArgs false
open Go.RowKit Go.Proofs.Ytiohiiekaofkbaa.PNamesPuts Go.Proofs.YtiohiiekaofkbaaW.PrintWords

theorem or128' (x : Int) (h0 : 0 ≤ x) (h : x < 256) : bits .or .u8 x 128 = x % 128 + 128 := by
  obtain ⟨n, rfl⟩ : ∃ n : Nat, x = n := ⟨x.toNat, by omega⟩
  have hn : n < 256 := by omega
  have key : ∀ m : Fin 256, bits .or .u8 ((m.val : Nat) : Int) 128 = ((m.val : Nat) : Int) % 128 + 128 := by decide +kernel
  exact key ⟨n, hn⟩

theorem putU_loop (k : Nat) : ∀ (l : List Int) (x : Int), 0 ≤ x → (uL x).length ≤ k → l.length + (uL x).length ≤ 1000000000 → leb_PutU.l0 k l x = some (l ++ uL x) := by
  induction k with
  | zero => intro l x _ h _; have := uL_pos x; omega
  | succ k ih =>
    intro l x h0 hk hl
    simp only [leb_PutU.l0]
    by_cases h : x < 128
    · rw [uL_small h] at hl ⊢
      simp only [List.length_singleton] at hl
      rw [if_neg (by omega), if_pos (by omega), show x % 256 = x by omega]
    · rw [uL_big (by omega)] at hk hl ⊢
      simp only [List.length_cons] at hk hl
      rw [if_pos (by omega), if_pos (by omega), or128' _ (by omega) (by omega), show x % 256 % 128 + 128 = x % 128 + 128 by omega]
      rw [ih _ _ (by omega) (by omega) (by simp; omega)]
      simp
theorem uL_max (x : Int) (h0 : 0 ≤ x) (h : x ≤ 18446744073709551615) : (uL x).length ≤ 10 := uL_len10 h0 h
theorem uL_le5 (x : Int) (h0 : 0 ≤ x) (h : x ≤ 4294967295) : (uL x).length ≤ 5 := uL_len 4 x h0 (by omega)
theorem putU_some {l : List Int} {x : Int} {k : Nat} (h0 : 0 ≤ x) (h : x ≤ 18446744073709551615) (hk : 10 ≤ k) (hl : l.length ≤ 900000000) : leb_PutU.f k l x = some (l ++ uL x) := by
  have := uL_max x h0 h
  exact putU_loop k l x h0 (by omega) (by omega)

/-- a text's bytes -/
def txt (s : ByteArray) : List Int := uL s.size ++ bytesOf s
theorem txt_len (s : ByteArray) (h : s.size ≤ 1000000000) : (txt s).length ≤ s.size + 10 := by
  have := uL_max s.size (by omega) (by omega)
  rw [txt, List.length_append, bytesOf_length]; omega
theorem putText_some {l : List Int} {s : ByteArray} {k : Nat} (hs : s.size ≤ 1000000000) (hk : 10 ≤ k) (hl : l.length ≤ 900000000) : entry_PutText.f k l s = some (l ++ txt s) := by
  unfold entry_PutText.f
  have hm := uL_max s.size (by omega) (by omega)
  rw [wu, show ((s.size : Int)) % 18446744073709551616 = s.size by omega, putU_some (by omega) (by omega) hk hl, Option.bind_some, if_pos (by rw [List.length_append]; omega), txt, List.append_assoc]

/-- a name's bytes -/
def nmB (x : S62) : List Int := uL x.f0 ++ txt x.f1
/-- names' bytes, one behind the other -/
def nmsB (l : List S62) : List Int := l.flatMap nmB
/-- a list's bytes -/
def nlB (l : List S62) : List Int := uL l.length ++ nmsB l
/-- the indexes are numbers of 32 bits -/
def U32s (l : List S62) : Prop := ∀ x ∈ l, 0 ≤ x.f0 ∧ x.f0 ≤ 4294967295
theorem rd_Name (l : List S62) (i : Nat) (h : i < l.length) : rd_T62 l i = l[i] := by
  simp [rd_T62, List.getD_eq_getElem?_getD, List.getElem?_eq_getElem h]

theorem list_loop (l : List S62) (hU : U32s l) (hl : l.length ≤ 1000000000) (d : Nat) : ∀ (i : Nat) (b : List Int) (k : Nat), i + d = l.length → d + 10 < k → b.length + (nmsB (l.drop i)).length ≤ 800000000 →
    names_list.l0 k b l l.length i = some (b ++ nmsB (l.drop i)) := by
  induction d with
  | zero =>
    intro i b k hi hk _
    obtain ⟨k, rfl⟩ : ∃ m, k = m + 1 := ⟨k - 1, by omega⟩
    simp only [names_list.l0]
    rw [if_neg (by omega), List.drop_eq_nil_of_le (by omega)]; simp [nmsB]
  | succ d ih =>
    intro i b k hi hk hb
    obtain ⟨k, rfl⟩ : ∃ m, k = m + 1 := ⟨k - 1, by omega⟩
    have hlt : i < l.length := by omega
    obtain ⟨u0, u1⟩ := hU _ (List.getElem_mem hlt)
    have hd : nmsB (l.drop i) = nmB l[i] ++ nmsB (l.drop (i + 1)) := by rw [List.drop_eq_getElem_cons hlt]; rfl
    rw [hd] at hb ⊢
    have hn : (nmB l[i]).length = (uL l[i].f0).length + ((uL (l[i].f1.size : Int)).length + l[i].f1.size) := by simp [nmB, txt, bytesOf_length]
    rw [List.length_append, hn] at hb
    simp only [names_list.l0]
    rw [if_pos (by omega), if_pos (by omega), if_pos (by omega), rd_Name l i hlt, wu, show l[i].f0 % 18446744073709551616 = l[i].f0 by omega, putU_some u0 (by omega) (by omega) (by omega), Option.bind_some,
      putText_some (by omega) (by omega) (by rw [List.length_append]; omega), Option.bind_some, show wrap64 ((i : Int) + 1) = ((i + 1 : Nat) : Int) by unfold wrap64; omega, ih (i + 1) _ k (by omega) (by omega) (by simp only [List.length_append, txt, bytesOf_length]; omega)]
    simp [nmB]
theorem list_some {l : List S62} {b : List Int} (hU : U32s l) (hb : b.length + (nlB l).length ≤ 800000000) (hl : l.length ≤ 1000000000) : names_list.f (l.length + 11) b l = some (b ++ nlB l) := by
  unfold names_list.f
  have e : (nlB l).length = (uL (l.length : Int)).length + (nmsB l).length := by rw [nlB, List.length_append]
  rw [wu, show ((l.length : Int)) % 18446744073709551616 = l.length by omega, putU_some (by omega) (by omega) (by omega) (by omega), Option.bind_some]
  have := list_loop l hU hl l.length 0 (b ++ uL (l.length : Int)) (l.length + 11) (by omega) (by omega) (by simp only [List.length_append, List.drop_zero]; omega)
  rw [show ((0 : Nat) : Int) = 0 from rfl] at this
  rw [this]; simp [nlB]

/-- a row of bytes of the call's own -/
def Rw (w : World) (base : Nat) (ok : Nat → Prop) (v : Value) (l : List Int) : Prop := Kd.R (Kd.int .u8) 5 w base ok v l
/-- behind what was handed in something is put -/
def PK (w0 w : World) (P : Nat → Prop) (l : List Int) (e : Ending) (w' : World) : Prop := ∃ v, e = .returned v ∧ Rw w' w0.heap.size (fun k => P k ∨ w.heap.size ≤ k) v l ∧ Below w0.heap.size w0 w' ∧ Kept w w' P

theorem putU_kept (P : Nat → Prop) (v : Value) (l : List Int) (x : Int) (w0 w : World) (hB : Below w0.heap.size w0 w) (ho : Rw w w0.heap.size P v l) (h0 : 0 ≤ x) (h : x ≤ 18446744073709551615) (hl : l.length ≤ 900000000) :
    Calls Try.prog 16 #[v, .int .u64 x] w (PK w0 w P (l ++ uL x)) :=
  (leb_PutU.calls 10 P v l x _ w0 w hB ho (putU_some h0 h (by omega) hl)).mono fun _ _ ⟨v0, h1, h2, h3, h4⟩ => ⟨v0, h1, h2, h3, h4.mono fun _ hk => hk⟩
theorem putText_kept (P : Nat → Prop) (v : Value) (l : List Int) (s : ByteArray) (w0 w : World) (hB : Below w0.heap.size w0 w) (ho : Rw w w0.heap.size P v l) (hs : s.size ≤ 1000000000) (hl : l.length ≤ 900000000) :
    Calls Try.prog 18 #[v, .string s] w (PK w0 w P (l ++ txt s)) :=
  (entry_PutText.calls 10 P v l s _ w0 w hB ho (putText_some hs (by omega) hl)).mono fun _ _ ⟨v0, h1, h2, h3, h4⟩ => ⟨v0, h1, h2, h3, h4⟩
theorem list_kept (P : Nat → Prop) (v : Value) (b : List Int) (A : Option Addr) (c : Nat) (l : List S62) (w0 w : World) (hB : Below w0.heap.size w0 w) (ho : Rw w w0.heap.size P v b) (hr : ∀ W, Kept w W P → Kd.C k62 W A l.length l) (hc : l.length ≤ c) (hU : U32s l) (hb : b.length + (nlB l).length ≤ 800000000) (hl : l.length ≤ 1000000000) :
    Calls Try.prog 17 #[v, .slice A l.length c] w (PK w0 w P (b ++ nlB l)) :=
  (names_list.calls _ P v b A c l _ w0 w hB ho hr hc (list_some hU hb hl)).mono fun _ _ ⟨v0, h1, h2, h3, h4⟩ => ⟨v0, h1, h2, h3, h4⟩
end Go.Proofs.Ytiohiiekaofkbaa
