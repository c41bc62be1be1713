/- The contracts of all that the statement WtypePuts calls. -/
import Derived.Test.YtiohiiekaofkbaaDoorZW
import Derived.Test.YtiohiiekaofkbaaDoorA3
namespace Go.Proofs.YtiohiiekaofkbaaDoor
set_option linter.unusedVariables false
set_option linter.unusedSimpArgs false
open Go.RowKit Go.Proofs.YtiohiiekaofkbaaDoor.PWtypePuts Go.Proofs.YtiohiiekaofkbaaDoorW.PrintWords

/-- a row of types -/
abbrev CV (W : World) (A : Option Addr) (l : List Int) : Prop := Kd.C (Kd.int .u8) W A l.length l
/-- a row of types of the call's own -/
abbrev RV (W : World) (base : Nat) (v : Value) (l : List Int) : Prop := Kd.R (Kd.int .u8) 60 W base (fun _ => True) v l
theorem ofunc_walk (p r : ByteArray) (w : World) (hp : p.size ≤ 1000) (hr : r.size ≤ 1000) : Calls Tryd.prog 18 #[.agg #[.string p, .string r]] w fun e w' => ∃ v0 v1, e = .returned (.agg #[v0, v1]) ∧ RV w' w.heap.size v0 (bytesOf p) ∧ RV w' w.heap.size v1 (bytesOf r) ∧ Below w.heap.size w w' := by
  have h : dobbylaw05_OwnFunc.f 1001 p r = some (bytesOf p, bytesOf r) := by
    unfold dobbylaw05_OwnFunc.f
    rw [ovals_some p (by omega) 1001 (by omega), Option.bind_some, ovals_some r (by omega) 1001 (by omega), Option.bind_some]
  exact (dobbylaw05_OwnFunc.calls 1001 p r _ _ w h).mono fun e w' ⟨v0, v1, h1, h2, h3, h4⟩ => ⟨v0, v1, h1, Kd.R_mono h2 (fun _ _ => trivial), Kd.R_mono h3 (fun _ _ => trivial), h4⟩
theorem olim_walk (m : Bool) (a b : Int) (w : World) : Calls Tryd.prog 19 #[.agg #[.bool m, .int .u32 a, .int .u32 b]] w fun e w' => e = .returned (.agg #[.bool m, .int .u32 a, .int .u32 b]) ∧ Below w.heap.size w w' :=
  dobbylaw05_OwnLimits.calls m a b m a b w rfl
theorem otab_walk (v : Int) (m : Bool) (a b : Int) (w : World) : Calls Tryd.prog 20 #[.agg #[.int .u8 v, .bool m, .int .u32 a, .int .u32 b]] w fun e w' => e = .returned (.agg #[.int .u8 v, .bool m, .int .u32 a, .int .u32 b]) ∧ Below w.heap.size w w' :=
  dobbylaw05_OwnTable.calls v m a b v m a b w rfl
theorem oglob_walk (v : Int) (m : Bool) (w : World) : Calls Tryd.prog 21 #[.agg #[.int .u8 v, .bool m]] w fun e w' => e = .returned (.agg #[.int .u8 v, .bool m]) ∧ Below w.heap.size w w' :=
  dobbylaw05_OwnGlobal.calls v m v m w rfl
theorem rvals_walk (s : ByteArray) (w : World) (hs : s.size ≤ 1000) : Calls Tryd.prog 22 #[.string s] w fun e w' => e = .returned (.bool (valsB s)) ∧ Below w.heap.size w w' :=
  (dobbyref05_Vals.calls _ s _ w (rvals_some s (by omega))).mono fun _ _ ⟨h1, h2⟩ => ⟨h1, h2.below⟩
theorem rref_walk (v : Int) (w : World) : Calls Tryd.prog 23 #[.int .u8 v] w fun e w' => e = .returned (.bool (refV v)) ∧ Below w.heap.size w w' :=
  (dobbyref05_Ref.calls v _ w (rref_some v)).mono fun _ _ ⟨h1, h2⟩ => ⟨h1, h2.below⟩
theorem rval_walk (v : Int) (w : World) : Calls Tryd.prog 28 #[.int .u8 v] w fun e w' => e = .returned (.bool (valV v)) ∧ Below w.heap.size w w' :=
  (dobbyref05_Val.calls v _ w (rval_some v)).mono fun _ _ ⟨h1, h2⟩ => ⟨h1, h2.below⟩
theorem vref_calls (v : Int) (w : World) : Calls Tryd.prog 30 #[.int .u8 v] w fun e w' => e = .returned (.bool (refV v)) ∧ Below w.heap.size w w' :=
  (wtype_Val_Ref.calls v _ w (ref_some v)).mono fun _ _ ⟨h1, h2⟩ => ⟨h1, h2.below⟩
theorem lright_walk (m : Bool) (a b : Int) (w : World) : Calls Tryd.prog 25 #[.agg #[.bool m, .int .u32 a, .int .u32 b]] w fun e w' => e = .returned (.bool (m || b == 0)) ∧ Below w.heap.size w w' :=
  wtype_Limits_Right.calls m a b _ w (limRight_some m a b)
theorem tright_walk (v : Int) (m : Bool) (a b : Int) (w : World) : Calls Tryd.prog 26 #[.agg #[.int .u8 v, .bool m, .int .u32 a, .int .u32 b]] w fun e w' => e = .returned (.bool (refV v && (m || b == 0))) ∧ Below w.heap.size w w' :=
  wtype_Table_Right.calls v m a b _ w (tabRight_some v m a b)
theorem gright_walk (v : Int) (m : Bool) (w : World) : Calls Tryd.prog 27 #[.agg #[.int .u8 v, .bool m]] w fun e w' => e = .returned (.bool (valV v)) ∧ Below w.heap.size w w' :=
  wtype_Global_Right.calls v m _ w (globRight_some v m)
theorem fsame_walk (A B A' B' : Option Addr) (c d c' d' : Nat) (l m l' m' : List Int) (w : World) (h0 : CV w A l) (hc0 : l.length ≤ c) (h1 : CV w B m) (hc1 : m.length ≤ d) (h2 : CV w A' l') (hc2 : l'.length ≤ c') (h3 : CV w B' m') (hc3 : m'.length ≤ d') (hl : l.length ≤ 1000) (hm : m.length ≤ 1000) :
    Calls Tryd.prog 31 #[.agg #[.slice A l.length c, .slice B m.length d], .agg #[.slice A' l'.length c', .slice B' m'.length d']] w fun e w' => e = .returned (.bool (decide (l = l' ∧ m = m'))) ∧ Below w.heap.size w w' :=
  wtype_Func_Same.calls 1001 A c l B d m A' c' l' B' d' m' _ w h0 hc0 h1 hc1 h2 hc2 h3 hc3 (fsame_some l m l' m' (by omega) (by omega) 1001 (by omega) (by omega))
theorem fput_walk (A B : Option Addr) (c d : Nat) (l m : List Int) (P : Nat → Prop) (v : Value) (b : List Int) (w : World) (h0 : ∀ W, Kept w W P → CV W A l) (hc0 : l.length ≤ c) (h1 : ∀ W, Kept w W P → CV W B m) (hc1 : m.length ≤ d) (hl : l.length ≤ 1000) (hm : m.length ≤ 1000) (hb : b.length ≤ 1000) (w0 : World) (hB : Below w0.heap.size w0 w) (ho : Kd.R (Kd.int .u8) 5 w w0.heap.size P v b) :
    Calls Tryd.prog 32 #[.agg #[.slice A l.length c, .slice B m.length d], v] w fun e w' => ∃ v', e = .returned v' ∧ Hid (Own w' w0.heap.size v' (b ++ funcB l m)) ∧ Below w0.heap.size w0 w' :=
  (wtype_Func_Put.calls 1100 A c l B d m P v b _ w0 w hB h0 hc0 h1 hc1 ho (funcPut_some l m b (by omega) (by omega) (by omega) 1100 (by omega) (by omega))).mono fun _ _ ⟨v', h1, h2, h3, _⟩ => ⟨v', h1, own_of_Kd h2, h3⟩
theorem rputFunc_walk (p r : ByteArray) (w : World) (m : Int) (hp : p.size ≤ 1000) (hr : r.size ≤ 1000) (hm : 0 ≤ m) (hm2 : m ≤ 10) : Calls Tryd.prog 33 #[.agg #[.string p, .string r], .int .i64 m] w fun e w' => e = .returned (.string (strOfNums (funcM p r m))) ∧ Below w.heap.size w w' :=
  dobbyref05_PutFunc.calls 1 p r m _ w (rputFunc_some p r 1 (by omega) (by omega) hm hm2)
theorem pvals_walk (A : Option Addr) (c : Nat) (l : List Int) (w : World) (h : CV w A l) (hc : l.length ≤ c) (hl : l.length ≤ 1000) :
    Calls Tryd.prog 34 #[.slice none 0 0, .slice A l.length c] w fun e w' => ∃ v', e = .returned v' ∧ Hid (Own w' w.heap.size v' (uvB l)) ∧ Below w.heap.size w w' :=
  (wtype_PutVals.calls 1100 (fun _ => False) (.slice none 0 0) [] A c l _ w w (Below.refl _ _) (Kd.R_nil _ _ _ _ _) (fun W hk => (Kd.heap_int .u8).C (fun i hi => hk.2 i hi (fun q => q)) h) hc (putVals_some [] l (by omega) (by simp) 1100 (by omega))).mono fun _ _ ⟨v', h1, h2, h3, _⟩ => ⟨v', h1, by have := own_of_Kd h2; rwa [List.nil_append] at this, h3⟩
theorem rputVals_walk (s : ByteArray) (w : World) (m : Int) (hs : s.size ≤ 1000) (hm : 0 ≤ m) (hm2 : m ≤ 10) : Calls Tryd.prog 35 #[.string s, .int .i64 m] w fun e w' => e = .returned (.string (strOfNums (valsM s m))) ∧ Below w.heap.size w w' :=
  dobbyref05_PutVals.calls 1 s m _ w (rputVals_some s 1 (by omega) hm hm2)
theorem lput_walk (m : Bool) (a b : Int) (w : World) (a0 : 0 ≤ a) (a1 : a ≤ 4294967295) (b0 : 0 ≤ b) (b1 : b ≤ 4294967295) :
    Calls Tryd.prog 36 #[.agg #[.bool m, .int .u32 a, .int .u32 b], .slice none 0 0] w fun e w' => ∃ v', e = .returned v' ∧ Hid (Own w' w.heap.size v' (lputB m a b)) ∧ Below w.heap.size w w' :=
  (wtype_Limits_Put.calls 10 m a b (fun _ => False) (.slice none 0 0) [] _ w w (Below.refl _ _) (Kd.R_nil _ _ _ _ _) (limPut_some m a b [] a0 a1 b0 b1 (by simp) 10 (by omega))).mono fun _ _ ⟨v', h1, h2, h3, _⟩ => ⟨v', h1, by have := own_of_Kd h2; rwa [List.nil_append] at this, h3⟩
theorem rputLim_walk (b : Bool) (mn mx : Int) (w : World) (m : Int) (h0 : 0 ≤ mn) (h1 : mn ≤ 4294967295) (g0 : 0 ≤ mx) (g1 : mx ≤ 4294967295) (hm : 0 ≤ m) (hm2 : m ≤ 10) : Calls Tryd.prog 37 #[.agg #[.bool b, .int .u32 mn, .int .u32 mx], .int .i64 m] w fun e w' => e = .returned (.string (strOfNums (limM b mn mx m))) ∧ Below w.heap.size w w' :=
  dobbyref05_PutLimits.calls 1 b mn mx m _ w (rputLimits_some b 1 h0 h1 g0 g1 hm hm2)
theorem tput_walk (v : Int) (m : Bool) (a b : Int) (w : World) (a0 : 0 ≤ a) (a1 : a ≤ 4294967295) (b0 : 0 ≤ b) (b1 : b ≤ 4294967295) :
    Calls Tryd.prog 38 #[.agg #[.int .u8 v, .bool m, .int .u32 a, .int .u32 b], .slice none 0 0] w fun e w' => ∃ v', e = .returned v' ∧ Hid (Own w' w.heap.size v' ([v] ++ lputB m a b)) ∧ Below w.heap.size w w' :=
  (wtype_Table_Put.calls 10 v m a b (fun _ => False) (.slice none 0 0) [] _ w w (Below.refl _ _) (Kd.R_nil _ _ _ _ _) (tabPut_some v m a b [] a0 a1 b0 b1 (by simp) 10 (by omega))).mono fun _ _ ⟨v', h1, h2, h3, _⟩ => ⟨v', h1, by have := own_of_Kd h2; rwa [List.nil_append] at this, h3⟩
theorem rputTab_walk (v : Int) (b : Bool) (mn mx : Int) (w : World) (m : Int) (h0 : 0 ≤ mn) (h1 : mn ≤ 4294967295) (g0 : 0 ≤ mx) (g1 : mx ≤ 4294967295) (hm : 0 ≤ m) (hm2 : m ≤ 10) : Calls Tryd.prog 39 #[.agg #[.int .u8 v, .bool b, .int .u32 mn, .int .u32 mx], .int .i64 m] w fun e w' => e = .returned (.string (strOfNums ([v] ++ limM b mn mx m))) ∧ Below w.heap.size w w' :=
  dobbyref05_PutTable.calls 1 v b mn mx m _ w (rputTable_some v b 1 h0 h1 g0 g1 hm hm2)
theorem gput_walk (v : Int) (m : Bool) (w : World) :
    Calls Tryd.prog 40 #[.agg #[.int .u8 v, .bool m], .slice none 0 0] w fun e w' => ∃ v', e = .returned v' ∧ Hid (Own w' w.heap.size v' [v, bitB m]) ∧ Below w.heap.size w w' :=
  (wtype_Global_Put.calls v m (fun _ => False) (.slice none 0 0) [] _ w w (Below.refl _ _) (Kd.R_nil _ _ _ _ _) (globPut_some v m [] (by simp))).mono fun _ _ ⟨v', h1, h2, h3, _⟩ => ⟨v', h1, by have := own_of_Kd h2; rwa [List.nil_append] at this, h3⟩
theorem rputGlob_walk (v : Int) (b : Bool) (w : World) : Calls Tryd.prog 41 #[.agg #[.int .u8 v, .bool b]] w fun e w' => e = .returned (.string (strOfNums [v, bitB b])) ∧ Below w.heap.size w w' :=
  dobbyref05_PutGlobal.calls v b _ w (rputGlobal_some v b)
end Go.Proofs.YtiohiiekaofkbaaDoor
