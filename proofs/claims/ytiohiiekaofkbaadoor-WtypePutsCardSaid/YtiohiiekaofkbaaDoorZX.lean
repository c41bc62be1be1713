/- Some texts of this seat in one. -/
import Derived.Test.YtiohiiekaofkbaaDoorZW
import Derived.Test.YtiohiiekaofkbaaDoorA3
/- The contracts of all that the statement WtypePuts calls. -/
namespace Go.Proofs.YtiohiiekaofkbaaDoor
set_option linter.unusedVariables false
set_option linter.unusedSimpArgs false
open Go.RowKit Go.Proofs.YtiohiiekaofkbaaDoor.PWtypePuts Go.Proofs.YtiohiiekaofkbaaDoorW.PrintWords

/-- a row of types -/
abbrev CV (W : World) (A : Option Addr) (l : List Int) : Prop := Kd.C (Kd.int .u8) W A l.length l
/-- a row of types of the call's own -/
abbrev RV (W : World) (base : Nat) (v : Value) (l : List Int) : Prop := Kd.R (Kd.int .u8) 60 W base (fun _ => True) v l
theorem ofunc_walk (p r : ByteArray) (w : World) (hp : p.size ≤ 1000) (hr : r.size ≤ 1000) : Calls Tryd.prog 18 #[.agg #[.string p, .string r]] w fun e w' => ∃ v0 v1, e = .returned (.agg #[v0, v1]) ∧ RV w' w.heap.size v0 (bytesOf p) ∧ RV w' w.heap.size v1 (bytesOf r) ∧ Below w.heap.size w w' := by
  have h : dobbylaw05_OwnFunc.f 1001 p r = some (bytesOf p, bytesOf r) := by
    unfold dobbylaw05_OwnFunc.f
    rw [ovals_some p (by omega) 1001 (by omega), Option.bind_some, ovals_some r (by omega) 1001 (by omega), Option.bind_some]
  exact (dobbylaw05_OwnFunc.calls 1001 p r _ _ w h).mono fun e w' ⟨v0, v1, h1, h2, h3, h4⟩ => ⟨v0, v1, h1, Kd.R_mono h2 (fun _ _ => trivial), Kd.R_mono h3 (fun _ _ => trivial), h4⟩
theorem olim_walk (m : Bool) (a b : Int) (w : World) : Calls Tryd.prog 19 #[.agg #[.bool m, .int .u32 a, .int .u32 b]] w fun e w' => e = .returned (.agg #[.bool m, .int .u32 a, .int .u32 b]) ∧ Below w.heap.size w w' :=
  dobbylaw05_OwnLimits.calls m a b m a b w rfl
theorem otab_walk (v : Int) (m : Bool) (a b : Int) (w : World) : Calls Tryd.prog 20 #[.agg #[.int .u8 v, .bool m, .int .u32 a, .int .u32 b]] w fun e w' => e = .returned (.agg #[.int .u8 v, .bool m, .int .u32 a, .int .u32 b]) ∧ Below w.heap.size w w' :=
  dobbylaw05_OwnTable.calls v m a b v m a b w rfl
theorem oglob_walk (v : Int) (m : Bool) (w : World) : Calls Tryd.prog 21 #[.agg #[.int .u8 v, .bool m]] w fun e w' => e = .returned (.agg #[.int .u8 v, .bool m]) ∧ Below w.heap.size w w' :=
  dobbylaw05_OwnGlobal.calls v m v m w rfl
theorem rvals_walk (s : ByteArray) (w : World) (hs : s.size ≤ 1000) : Calls Tryd.prog 22 #[.string s] w fun e w' => e = .returned (.bool (valsB s)) ∧ Below w.heap.size w w' :=
  (dobbyref05_Vals.calls _ s _ w (rvals_some s (by omega))).mono fun _ _ ⟨h1, h2⟩ => ⟨h1, h2.below⟩
theorem rref_walk (v : Int) (w : World) : Calls Tryd.prog 23 #[.int .u8 v] w fun e w' => e = .returned (.bool (refV v)) ∧ Below w.heap.size w w' :=
  (dobbyref05_Ref.calls v _ w (rref_some v)).mono fun _ _ ⟨h1, h2⟩ => ⟨h1, h2.below⟩
theorem rval_walk (v : Int) (w : World) : Calls Tryd.prog 28 #[.int .u8 v] w fun e w' => e = .returned (.bool (valV v)) ∧ Below w.heap.size w w' :=
  (dobbyref05_Val.calls v _ w (rval_some v)).mono fun _ _ ⟨h1, h2⟩ => ⟨h1, h2.below⟩
theorem vref_calls (v : Int) (w : World) : Calls Tryd.prog 30 #[.int .u8 v] w fun e w' => e = .returned (.bool (refV v)) ∧ Below w.heap.size w w' :=
  (wtype_Val_Ref.calls v _ w (ref_some v)).mono fun _ _ ⟨h1, h2⟩ => ⟨h1, h2.below⟩
theorem lright_walk (m : Bool) (a b : Int) (w : World) : Calls Tryd.prog 25 #[.agg #[.bool m, .int .u32 a, .int .u32 b]] w fun e w' => e = .returned (.bool (m || b == 0)) ∧ Below w.heap.size w w' :=
  wtype_Limits_Right.calls m a b _ w (limRight_some m a b)
theorem tright_walk (v : Int) (m : Bool) (a b : Int) (w : World) : Calls Tryd.prog 26 #[.agg #[.int .u8 v, .bool m, .int .u32 a, .int .u32 b]] w fun e w' => e = .returned (.bool (refV v && (m || b == 0))) ∧ Below w.heap.size w w' :=
  wtype_Table_Right.calls v m a b _ w (tabRight_some v m a b)
theorem gright_walk (v : Int) (m : Bool) (w : World) : Calls Tryd.prog 27 #[.agg #[.int .u8 v, .bool m]] w fun e w' => e = .returned (.bool (valV v)) ∧ Below w.heap.size w w' :=
  wtype_Global_Right.calls v m _ w (globRight_some v m)
theorem fsame_walk (A B A' B' : Option Addr) (c d c' d' : Nat) (l m l' m' : List Int) (w : World) (h0 : CV w A l) (hc0 : l.length ≤ c) (h1 : CV w B m) (hc1 : m.length ≤ d) (h2 : CV w A' l') (hc2 : l'.length ≤ c') (h3 : CV w B' m') (hc3 : m'.length ≤ d') (hl : l.length ≤ 1000) (hm : m.length ≤ 1000) :
    Calls Tryd.prog 31 #[.agg #[.slice A l.length c, .slice B m.length d], .agg #[.slice A' l'.length c', .slice B' m'.length d']] w fun e w' => e = .returned (.bool (decide (l = l' ∧ m = m'))) ∧ Below w.heap.size w w' :=
  wtype_Func_Same.calls 1001 A c l B d m A' c' l' B' d' m' _ w h0 hc0 h1 hc1 h2 hc2 h3 hc3 (fsame_some l m l' m' (by omega) (by omega) 1001 (by omega) (by omega))
theorem fput_walk (A B : Option Addr) (c d : Nat) (l m : List Int) (P : Nat → Prop) (v : Value) (b : List Int) (w : World) (h0 : ∀ W, Kept w W P → CV W A l) (hc0 : l.length ≤ c) (h1 : ∀ W, Kept w W P → CV W B m) (hc1 : m.length ≤ d) (hl : l.length ≤ 1000) (hm : m.length ≤ 1000) (hb : b.length ≤ 1000) (w0 : World) (hB : Below w0.heap.size w0 w) (ho : Kd.R (Kd.int .u8) 5 w w0.heap.size P v b) :
    Calls Tryd.prog 32 #[.agg #[.slice A l.length c, .slice B m.length d], v] w fun e w' => ∃ v', e = .returned v' ∧ Hid (Own w' w0.heap.size v' (b ++ funcB l m)) ∧ Below w0.heap.size w0 w' :=
  (wtype_Func_Put.calls 1100 A c l B d m P v b _ w0 w hB h0 hc0 h1 hc1 ho (funcPut_some l m b (by omega) (by omega) (by omega) 1100 (by omega) (by omega))).mono fun _ _ ⟨v', h1, h2, h3, _⟩ => ⟨v', h1, own_of_Kd h2, h3⟩
theorem rputFunc_walk (p r : ByteArray) (w : World) (m : Int) (hp : p.size ≤ 1000) (hr : r.size ≤ 1000) (hm : 0 ≤ m) (hm2 : m ≤ 10) : Calls Tryd.prog 33 #[.agg #[.string p, .string r], .int .i64 m] w fun e w' => e = .returned (.string (strOfNums (funcM p r m))) ∧ Below w.heap.size w w' :=
  dobbyref05_PutFunc.calls 1 p r m _ w (rputFunc_some p r 1 (by omega) (by omega) hm hm2)
theorem pvals_walk (A : Option Addr) (c : Nat) (l : List Int) (w : World) (h : CV w A l) (hc : l.length ≤ c) (hl : l.length ≤ 1000) :
    Calls Tryd.prog 34 #[.slice none 0 0, .slice A l.length c] w fun e w' => ∃ v', e = .returned v' ∧ Hid (Own w' w.heap.size v' (uvB l)) ∧ Below w.heap.size w w' :=
  (wtype_PutVals.calls 1100 (fun _ => False) (.slice none 0 0) [] A c l _ w w (Below.refl _ _) (Kd.R_nil _ _ _ _ _) (fun W hk => (Kd.heap_int .u8).C (fun i hi => hk.2 i hi (fun q => q)) h) hc (putVals_some [] l (by omega) (by simp) 1100 (by omega))).mono fun _ _ ⟨v', h1, h2, h3, _⟩ => ⟨v', h1, by have := own_of_Kd h2; rwa [List.nil_append] at this, h3⟩
theorem rputVals_walk (s : ByteArray) (w : World) (m : Int) (hs : s.size ≤ 1000) (hm : 0 ≤ m) (hm2 : m ≤ 10) : Calls Tryd.prog 35 #[.string s, .int .i64 m] w fun e w' => e = .returned (.string (strOfNums (valsM s m))) ∧ Below w.heap.size w w' :=
  dobbyref05_PutVals.calls 1 s m _ w (rputVals_some s 1 (by omega) hm hm2)
theorem lput_walk (m : Bool) (a b : Int) (w : World) (a0 : 0 ≤ a) (a1 : a ≤ 4294967295) (b0 : 0 ≤ b) (b1 : b ≤ 4294967295) :
    Calls Tryd.prog 36 #[.agg #[.bool m, .int .u32 a, .int .u32 b], .slice none 0 0] w fun e w' => ∃ v', e = .returned v' ∧ Hid (Own w' w.heap.size v' (lputB m a b)) ∧ Below w.heap.size w w' :=
  (wtype_Limits_Put.calls 10 m a b (fun _ => False) (.slice none 0 0) [] _ w w (Below.refl _ _) (Kd.R_nil _ _ _ _ _) (limPut_some m a b [] a0 a1 b0 b1 (by simp) 10 (by omega))).mono fun _ _ ⟨v', h1, h2, h3, _⟩ => ⟨v', h1, by have := own_of_Kd h2; rwa [List.nil_append] at this, h3⟩
theorem rputLim_walk (b : Bool) (mn mx : Int) (w : World) (m : Int) (h0 : 0 ≤ mn) (h1 : mn ≤ 4294967295) (g0 : 0 ≤ mx) (g1 : mx ≤ 4294967295) (hm : 0 ≤ m) (hm2 : m ≤ 10) : Calls Tryd.prog 37 #[.agg #[.bool b, .int .u32 mn, .int .u32 mx], .int .i64 m] w fun e w' => e = .returned (.string (strOfNums (limM b mn mx m))) ∧ Below w.heap.size w w' :=
  dobbyref05_PutLimits.calls 1 b mn mx m _ w (rputLimits_some b 1 h0 h1 g0 g1 hm hm2)
theorem tput_walk (v : Int) (m : Bool) (a b : Int) (w : World) (a0 : 0 ≤ a) (a1 : a ≤ 4294967295) (b0 : 0 ≤ b) (b1 : b ≤ 4294967295) :
    Calls Tryd.prog 38 #[.agg #[.int .u8 v, .bool m, .int .u32 a, .int .u32 b], .slice none 0 0] w fun e w' => ∃ v', e = .returned v' ∧ Hid (Own w' w.heap.size v' ([v] ++ lputB m a b)) ∧ Below w.heap.size w w' :=
  (wtype_Table_Put.calls 10 v m a b (fun _ => False) (.slice none 0 0) [] _ w w (Below.refl _ _) (Kd.R_nil _ _ _ _ _) (tabPut_some v m a b [] a0 a1 b0 b1 (by simp) 10 (by omega))).mono fun _ _ ⟨v', h1, h2, h3, _⟩ => ⟨v', h1, by have := own_of_Kd h2; rwa [List.nil_append] at this, h3⟩
theorem rputTab_walk (v : Int) (b : Bool) (mn mx : Int) (w : World) (m : Int) (h0 : 0 ≤ mn) (h1 : mn ≤ 4294967295) (g0 : 0 ≤ mx) (g1 : mx ≤ 4294967295) (hm : 0 ≤ m) (hm2 : m ≤ 10) : Calls Tryd.prog 39 #[.agg #[.int .u8 v, .bool b, .int .u32 mn, .int .u32 mx], .int .i64 m] w fun e w' => e = .returned (.string (strOfNums ([v] ++ limM b mn mx m))) ∧ Below w.heap.size w w' :=
  dobbyref05_PutTable.calls 1 v b mn mx m _ w (rputTable_some v b 1 h0 h1 g0 g1 hm hm2)
theorem gput_walk (v : Int) (m : Bool) (w : World) :
    Calls Tryd.prog 40 #[.agg #[.int .u8 v, .bool m], .slice none 0 0] w fun e w' => ∃ v', e = .returned v' ∧ Hid (Own w' w.heap.size v' [v, bitB m]) ∧ Below w.heap.size w w' :=
  (wtype_Global_Put.calls v m (fun _ => False) (.slice none 0 0) [] _ w w (Below.refl _ _) (Kd.R_nil _ _ _ _ _) (globPut_some v m [] (by simp))).mono fun _ _ ⟨v', h1, h2, h3, _⟩ => ⟨v', h1, by have := own_of_Kd h2; rwa [List.nil_append] at this, h3⟩
theorem rputGlob_walk (v : Int) (b : Bool) (w : World) : Calls Tryd.prog 41 #[.agg #[.int .u8 v, .bool b]] w fun e w' => e = .returned (.string (strOfNums [v, bitB b])) ∧ Below w.heap.size w w' :=
  dobbyref05_PutGlobal.calls v b _ w (rputGlobal_some v b)
end Go.Proofs.YtiohiiekaofkbaaDoor

/- A region in which four variables come up, in whatever order, beside four calls. -/
namespace Go.Proofs.YtiohiiekaofkbaaDoor
set_option linter.unusedVariables false
set_option linter.unusedSimpArgs false
open Go.RowKit

/-- what has come up: all but the last four operations that is no call and no new variable, c calls, and which of the variables -/
def LL (c : Nat) (b1 b2 b3 b4 : Bool) : Array Bool := #[true, true, decide (1 ≤ c), true, true, decide (2 ≤ c), true, true, decide (3 ≤ c), true, true, decide (4 ≤ c), b1, b2, b3, b4, false, false, false, false]
/-- what may come up -/
def RS (c : Nat) (b1 b2 b3 b4 : Bool) : List Nat := (if c = 0 then [2] else if c = 1 then [5] else if c = 2 then [8] else if c = 3 then [11] else []) ++ (if b1 then [] else [12]) ++ (if b2 then [] else [13]) ++ (if b3 then [] else [14]) ++ (if b4 then [] else [15])
def FL (b : Bool) : Nat := if b then 0 else 1
theorem FL0 (b : Bool) (h : FL b = 0) : b = true := by cases b <;> simp [FL] at h ⊢
theorem nil_of (b : Bool) (n : Nat) (h : (if b = true then [] else [n]) = ([] : List Nat)) : b = true := by cases b <;> simp at h ⊢
theorem float4 {P : Program} {ops : Array Oper} {Q : Exit → Act → World → Prop} {S : World → Prop} (I : Nat → Bool → Bool → Bool → Bool → Act → World → Prop)
    (hr : ∀ c b1 b2 b3 b4, c ≤ 4 → ¬ (c = 4 ∧ b1 = true ∧ b2 = true ∧ b3 = true ∧ b4 = true) → Region.ready .any ops (LL c b1 b2 b3 b4) = RS c b1 b2 b3 b4)
    (hS : ∀ c b1 b2 b3 b4 a w, I c b1 b2 b3 b4 a w → S w)
    (h0 : ∀ b1 b2 b3 b4 a w, I 0 b1 b2 b3 b4 a w → ∀ K : Act → World → Prop, (∀ a w, I 1 b1 b2 b3 b4 a w → K a w) → wpOp P ops Q 2 K a w)
    (h1 : ∀ b1 b2 b3 b4 a w, I 1 b1 b2 b3 b4 a w → ∀ K : Act → World → Prop, (∀ a w, I 2 b1 b2 b3 b4 a w → K a w) → wpOp P ops Q 5 K a w)
    (h2 : ∀ b1 b2 b3 b4 a w, I 2 b1 b2 b3 b4 a w → ∀ K : Act → World → Prop, (∀ a w, I 3 b1 b2 b3 b4 a w → K a w) → wpOp P ops Q 8 K a w)
    (h3 : ∀ b1 b2 b3 b4 a w, I 3 b1 b2 b3 b4 a w → ∀ K : Act → World → Prop, (∀ a w, I 4 b1 b2 b3 b4 a w → K a w) → wpOp P ops Q 11 K a w)
    (f1 : ∀ c b2 b3 b4 a w, I c false b2 b3 b4 a w → ∀ K : Act → World → Prop, (∀ a w, I c true b2 b3 b4 a w → K a w) → wpOp P ops Q 12 K a w)
    (f2 : ∀ c b1 b3 b4 a w, I c b1 false b3 b4 a w → ∀ K : Act → World → Prop, (∀ a w, I c b1 true b3 b4 a w → K a w) → wpOp P ops Q 13 K a w)
    (f3 : ∀ c b1 b2 b4 a w, I c b1 b2 false b4 a w → ∀ K : Act → World → Prop, (∀ a w, I c b1 b2 true b4 a w → K a w) → wpOp P ops Q 14 K a w)
    (f4 : ∀ c b1 b2 b3 a w, I c b1 b2 b3 false a w → ∀ K : Act → World → Prop, (∀ a w, I c b1 b2 b3 true a w → K a w) → wpOp P ops Q 15 K a w)
    (m : Nat) (he : ∀ a w, I 4 true true true true a w → wpAnyH P .any ops Q S m (LL 4 true true true true) a w) :
    ∀ (n c : Nat) (b1 b2 b3 b4 : Bool) (a : Act) (w : World), c ≤ 4 → n = 4 - c + (FL b1 + FL b2 + FL b3 + FL b4) → I c b1 b2 b3 b4 a w → wpAnyH P .any ops Q S (n + m) (LL c b1 b2 b3 b4) a w := by
  intro n
  induction n with
  | zero =>
    intro c b1 b2 b3 b4 a w hc hn hI
    obtain rfl : c = 4 := by omega
    have e1 : b1 = true := FL0 b1 (by omega)
    have e2 : b2 = true := FL0 b2 (by omega)
    have e3 : b3 = true := FL0 b3 (by omega)
    have e4 : b4 = true := FL0 b4 (by omega)
    subst e1 e2 e3 e4
    rw [Nat.zero_add]
    exact he a w hI
  | succ n ih =>
    intro c b1 b2 b3 b4 a w hc hn hI
    have hnot : ¬ (c = 4 ∧ b1 = true ∧ b2 = true ∧ b3 = true ∧ b4 = true) := by
      rintro ⟨rfl, rfl, rfl, rfl, rfl⟩; simp [FL] at hn
    rw [show n + 1 + m = (n + m) + 1 by omega]
    refine wpAnyH_all (hr c b1 b2 b3 b4 hc hnot) ?_ ?_
    · intro h
      apply hnot
      unfold RS at h
      simp only [List.append_eq_nil_iff] at h
      obtain ⟨⟨⟨⟨h1, h2⟩, h3⟩, h4⟩, h5⟩ := h
      refine ⟨?_, ?_, ?_, ?_, ?_⟩
      · have : c = 0 ∨ c = 1 ∨ c = 2 ∨ c = 3 ∨ c = 4 := by omega
        rcases this with rfl | rfl | rfl | rfl | rfl <;> simp at h1 ⊢
      · exact nil_of b1 _ h2
      · exact nil_of b2 _ h3
      · exact nil_of b3 _ h4
      · exact nil_of b4 _ h5
    · intro i hi
      unfold RS at hi
      simp only [List.mem_append] at hi
      rcases hi with (((hi | hi) | hi) | hi) | hi
      · have : c = 0 ∨ c = 1 ∨ c = 2 ∨ c = 3 ∨ c = 4 := by omega
        rcases this with rfl | rfl | rfl | rfl | rfl
        · simp at hi; subst hi
          exact h0 b1 b2 b3 b4 a w hI _ (fun a w hJ => ⟨hS _ _ _ _ _ _ _ hJ, ih 1 b1 b2 b3 b4 a w (by omega) (by omega) hJ⟩)
        · simp at hi; subst hi
          exact h1 b1 b2 b3 b4 a w hI _ (fun a w hJ => ⟨hS _ _ _ _ _ _ _ hJ, ih 2 b1 b2 b3 b4 a w (by omega) (by omega) hJ⟩)
        · simp at hi; subst hi
          exact h2 b1 b2 b3 b4 a w hI _ (fun a w hJ => ⟨hS _ _ _ _ _ _ _ hJ, ih 3 b1 b2 b3 b4 a w (by omega) (by omega) hJ⟩)
        · simp at hi; subst hi
          exact h3 b1 b2 b3 b4 a w hI _ (fun a w hJ => ⟨hS _ _ _ _ _ _ _ hJ, ih 4 b1 b2 b3 b4 a w (by omega) (by omega) hJ⟩)
        · simp at hi
      · cases b1
        · simp at hi; subst hi
          exact f1 c b2 b3 b4 a w hI _ (fun a w hJ => ⟨hS _ _ _ _ _ _ _ hJ, ih c true b2 b3 b4 a w hc (by simp [FL] at hn ⊢; omega) hJ⟩)
        · simp at hi
      · cases b2
        · simp at hi; subst hi
          exact f2 c b1 b3 b4 a w hI _ (fun a w hJ => ⟨hS _ _ _ _ _ _ _ hJ, ih c b1 true b3 b4 a w hc (by simp [FL] at hn ⊢; omega) hJ⟩)
        · simp at hi
      · cases b3
        · simp at hi; subst hi
          exact f3 c b1 b2 b4 a w hI _ (fun a w hJ => ⟨hS _ _ _ _ _ _ _ hJ, ih c b1 b2 true b4 a w hc (by simp [FL] at hn ⊢; omega) hJ⟩)
        · simp at hi
      · cases b4
        · simp at hi; subst hi
          exact f4 c b1 b2 b3 a w hI _ (fun a w hJ => ⟨hS _ _ _ _ _ _ _ hJ, ih c b1 b2 b3 true a w hc (by simp [FL] at hn ⊢; omega) hJ⟩)
        · simp at hi
end Go.Proofs.YtiohiiekaofkbaaDoor

/- The statement WtypePuts: its variables f, l, t, g come up, in whatever order. -/
namespace Go.Proofs.YtiohiiekaofkbaaDoor
set_option linter.unusedVariables false
set_option linter.unusedSimpArgs false
open Go.RowKit Go.Proofs.YtiohiiekaofkbaaDoor.PWtypePuts Go.Proofs.YtiohiiekaofkbaaDoorW.PrintWords

def ops3 : Array Oper := #[{ dst := some 37, op := Go.Op.fieldAddr 53 (Go.Operand.tmp 2) 1, type := 0, pos := "law.go:96", after := #[], guard := none },
    { dst := some 38, op := Go.Op.load 44 (Go.Operand.tmp 37), type := 44, pos := "law.go:96", after := #[{ on := 0, ground := Go.Ground.data }], guard := none },
    { dst := some 39, op := Go.Op.call { callee := Go.Callee.value (Go.Operand.func 18), args := #[Go.Operand.tmp 38], argTypes := #[44] }, type := 56, pos := "law.go:96", after := #[{ on := 1, ground := Go.Ground.data }], guard := none },
    { dst := some 40, op := Go.Op.fieldAddr 53 (Go.Operand.tmp 2) 2, type := 0, pos := "law.go:96", after := #[], guard := none },
    { dst := some 41, op := Go.Op.load 47 (Go.Operand.tmp 40), type := 47, pos := "law.go:96", after := #[{ on := 3, ground := Go.Ground.data }], guard := none },
    { dst := some 42, op := Go.Op.call { callee := Go.Callee.value (Go.Operand.func 19), args := #[Go.Operand.tmp 41], argTypes := #[47] }, type := 58, pos := "law.go:96", after := #[{ on := 4, ground := Go.Ground.data }, { on := 2, ground := Go.Ground.chain }], guard := none },
    { dst := some 43, op := Go.Op.fieldAddr 53 (Go.Operand.tmp 2) 3, type := 0, pos := "law.go:96", after := #[], guard := none },
    { dst := some 44, op := Go.Op.load 49 (Go.Operand.tmp 43), type := 49, pos := "law.go:96", after := #[{ on := 6, ground := Go.Ground.data }], guard := none },
    { dst := some 45, op := Go.Op.call { callee := Go.Callee.value (Go.Operand.func 20), args := #[Go.Operand.tmp 44], argTypes := #[49] }, type := 62, pos := "law.go:96", after := #[{ on := 7, ground := Go.Ground.data }, { on := 5, ground := Go.Ground.chain }], guard := none },
    { dst := some 46, op := Go.Op.fieldAddr 53 (Go.Operand.tmp 2) 4, type := 0, pos := "law.go:96", after := #[], guard := none },
    { dst := some 47, op := Go.Op.load 51 (Go.Operand.tmp 46), type := 51, pos := "law.go:96", after := #[{ on := 9, ground := Go.Ground.data }], guard := none },
    { dst := some 48, op := Go.Op.call { callee := Go.Callee.value (Go.Operand.func 21), args := #[Go.Operand.tmp 47], argTypes := #[51] }, type := 65, pos := "law.go:96", after := #[{ on := 10, ground := Go.Ground.data }, { on := 8, ground := Go.Ground.chain }], guard := none },
    { dst := some 5, op := Go.Op.alloc 56, type := 0, pos := "law.go:96", after := #[], guard := none },
    { dst := some 6, op := Go.Op.alloc 58, type := 0, pos := "law.go:96", after := #[], guard := none },
    { dst := some 7, op := Go.Op.alloc 62, type := 0, pos := "law.go:96", after := #[], guard := none },
    { dst := some 8, op := Go.Op.alloc 65, type := 0, pos := "law.go:96", after := #[], guard := none },
    { dst := none, op := Go.Op.store 56 (Go.Operand.tmp 5) (Go.Operand.tmp 39), type := 0, pos := "law.go:96", after := #[{ on := 12, ground := Go.Ground.data }, { on := 2, ground := Go.Ground.data }, { on := 11, ground := Go.Ground.chain }, { on := 0, ground := Go.Ground.phase }, { on := 1, ground := Go.Ground.phase }, { on := 2, ground := Go.Ground.phase }, { on := 3, ground := Go.Ground.textOnly Go.Departure.lateStores }, { on := 4, ground := Go.Ground.textOnly Go.Departure.lateStores }, { on := 5, ground := Go.Ground.textOnly Go.Departure.lateStoresUnsure }, { on := 6, ground := Go.Ground.textOnly Go.Departure.lateStores }, { on := 7, ground := Go.Ground.textOnly Go.Departure.lateStores }, { on := 8, ground := Go.Ground.textOnly Go.Departure.lateStoresUnsure }, { on := 9, ground := Go.Ground.textOnly Go.Departure.lateStores }, { on := 10, ground := Go.Ground.textOnly Go.Departure.lateStores }, { on := 11, ground := Go.Ground.textOnly Go.Departure.lateStoresUnsure }, { on := 12, ground := Go.Ground.phase }, { on := 13, ground := Go.Ground.phase }, { on := 14, ground := Go.Ground.phase }, { on := 15, ground := Go.Ground.phase }], guard := none },
    { dst := none, op := Go.Op.store 58 (Go.Operand.tmp 6) (Go.Operand.tmp 42), type := 0, pos := "law.go:96", after := #[{ on := 13, ground := Go.Ground.data }, { on := 5, ground := Go.Ground.data }, { on := 16, ground := Go.Ground.chain }, { on := 0, ground := Go.Ground.phase }, { on := 1, ground := Go.Ground.phase }, { on := 2, ground := Go.Ground.phase }, { on := 3, ground := Go.Ground.phase }, { on := 4, ground := Go.Ground.phase }, { on := 5, ground := Go.Ground.phase }, { on := 6, ground := Go.Ground.textOnly Go.Departure.lateStores }, { on := 7, ground := Go.Ground.textOnly Go.Departure.lateStores }, { on := 8, ground := Go.Ground.textOnly Go.Departure.lateStoresUnsure }, { on := 9, ground := Go.Ground.textOnly Go.Departure.lateStores }, { on := 10, ground := Go.Ground.textOnly Go.Departure.lateStores }, { on := 11, ground := Go.Ground.textOnly Go.Departure.lateStoresUnsure }, { on := 12, ground := Go.Ground.phase }, { on := 13, ground := Go.Ground.phase }, { on := 14, ground := Go.Ground.phase }, { on := 15, ground := Go.Ground.phase }, { on := 16, ground := Go.Ground.phase }], guard := none },
    { dst := none, op := Go.Op.store 62 (Go.Operand.tmp 7) (Go.Operand.tmp 45), type := 0, pos := "law.go:96", after := #[{ on := 14, ground := Go.Ground.data }, { on := 8, ground := Go.Ground.data }, { on := 17, ground := Go.Ground.chain }, { on := 0, ground := Go.Ground.phase }, { on := 1, ground := Go.Ground.phase }, { on := 2, ground := Go.Ground.phase }, { on := 3, ground := Go.Ground.phase }, { on := 4, ground := Go.Ground.phase }, { on := 5, ground := Go.Ground.phase }, { on := 6, ground := Go.Ground.phase }, { on := 7, ground := Go.Ground.phase }, { on := 8, ground := Go.Ground.phase }, { on := 9, ground := Go.Ground.textOnly Go.Departure.lateStores }, { on := 10, ground := Go.Ground.textOnly Go.Departure.lateStores }, { on := 11, ground := Go.Ground.textOnly Go.Departure.lateStoresUnsure }, { on := 12, ground := Go.Ground.phase }, { on := 13, ground := Go.Ground.phase }, { on := 14, ground := Go.Ground.phase }, { on := 15, ground := Go.Ground.phase }, { on := 16, ground := Go.Ground.phase }, { on := 17, ground := Go.Ground.phase }], guard := none },
    { dst := none, op := Go.Op.store 65 (Go.Operand.tmp 8) (Go.Operand.tmp 48), type := 0, pos := "law.go:96", after := #[{ on := 15, ground := Go.Ground.data }, { on := 11, ground := Go.Ground.data }, { on := 18, ground := Go.Ground.chain }, { on := 0, ground := Go.Ground.phase }, { on := 1, ground := Go.Ground.phase }, { on := 2, ground := Go.Ground.phase }, { on := 3, ground := Go.Ground.phase }, { on := 4, ground := Go.Ground.phase }, { on := 5, ground := Go.Ground.phase }, { on := 6, ground := Go.Ground.phase }, { on := 7, ground := Go.Ground.phase }, { on := 8, ground := Go.Ground.phase }, { on := 9, ground := Go.Ground.phase }, { on := 10, ground := Go.Ground.phase }, { on := 11, ground := Go.Ground.phase }, { on := 12, ground := Go.Ground.phase }, { on := 13, ground := Go.Ground.phase }, { on := 14, ground := Go.Ground.phase }, { on := 15, ground := Go.Ground.phase }, { on := 16, ground := Go.Ground.phase }, { on := 17, ground := Go.Ground.phase }, { on := 18, ground := Go.Ground.phase }], guard := none }]
theorem ready3b : ∀ (c : Fin 5) (b1 b2 b3 b4 : Bool), (c.val = 4 ∧ b1 = true ∧ b2 = true ∧ b3 = true ∧ b4 = true) ∨ Region.ready .any ops3 (LL c.val b1 b2 b3 b4) = RS c.val b1 b2 b3 b4 := by decide +kernel
theorem ready3 : ∀ c b1 b2 b3 b4, c ≤ 4 → ¬ (c = 4 ∧ b1 = true ∧ b2 = true ∧ b3 = true ∧ b4 = true) → Region.ready .any ops3 (LL c b1 b2 b3 b4) = RS c b1 b2 b3 b4 := by
  intro c b1 b2 b3 b4 hc hn
  rcases ready3b ⟨c, by omega⟩ b1 b2 b3 b4 with h | h
  · exact absurd h hn
  · exact h
/-- a variable that has come up: a block of its own, at its type's zero -/
def NV (base : Nat) (b : Bool) (s : Value) (zs : Array Value) (t : Nat) (W : World) : Prop := b = true → ∃ g, s = .pointer (some ⟨g, 0, none⟩) ∧ base ≤ g ∧ W.heap[g]? = some (.cells zs t (0, 0))
theorem NV.below {base : Nat} {b : Bool} {s : Value} {zs : Array Value} {t : Nat} {W W' : World} (h : NV base b s zs t W) (hb : Below W.heap.size W W') : NV base b s zs t W' := fun q => by
  obtain ⟨g, e, h1, h2⟩ := h q
  exact ⟨g, e, h1, blk_below h2 hb⟩
theorem NV.new {base : Nat} {zs : Array Value} {t : Nat} (W : World) (hB : base ≤ W.heap.size) : NV base true (.pointer (some ⟨W.heap.size, 0, none⟩)) zs t (W.alloc (.cells zs t)) := fun _ => ⟨_, rfl, hB, blk_new W _⟩
theorem NV.off {base : Nat} {s : Value} {zs : Array Value} {t : Nat} {W : World} : NV base false s zs t W := fun q => by cases q
/-- two variables are two -/
def DV (b b' : Bool) (s s' : Value) : Prop := b = true → b' = true → s ≠ s'
theorem ptr_ne {a b : Nat} (h : a ≠ b) : Value.pointer (some ⟨a, 0, none⟩) ≠ Value.pointer (some ⟨b, 0, none⟩) := fun e => h (by injection e with e; injection e with e; injection e)
theorem NV.ne {base : Nat} {b : Bool} {s : Value} {zs : Array Value} {t : Nat} {W : World} (h : NV base b s zs t W) (b' : Bool) : DV b b' s (.pointer (some ⟨W.heap.size, 0, none⟩)) := fun q _ => by
  obtain ⟨g, rfl, h1, h2⟩ := h q
  exact ptr_ne (Nat.ne_of_lt (blk_lt h2))
theorem DV.symm {b b' : Bool} {s s' : Value} (h : DV b b' s s') : DV b' b s' s := fun q q' e => h q' q e.symm
theorem DV.off {b : Bool} {s s' : Value} : DV b false s s' := fun _ q => by cases q
/-- the types of a function's type, in rows that no variable is -/
def FV (p r : ByteArray) (bs : List (Bool × Value)) (v : Value) (W : World) : Prop := ∃ base v0 v1, v = .agg #[v0, v1] ∧ Kd.R (Kd.int .u8) 60 W base (fun k => ∀ q ∈ bs, q.1 = true → q.2 ≠ .pointer (some ⟨k, 0, none⟩)) v0 (bytesOf p) ∧ Kd.R (Kd.int .u8) 60 W base (fun k => ∀ q ∈ bs, q.1 = true → q.2 ≠ .pointer (some ⟨k, 0, none⟩)) v1 (bytesOf r)
theorem FV.below {p r : ByteArray} {bs : List (Bool × Value)} {v : Value} {W W' : World} (h : FV p r bs v W) (hb : Below W.heap.size W W') : FV p r bs v W' := by
  obtain ⟨base, v0, v1, e, h0, h1⟩ := h
  exact ⟨base, v0, v1, e, Kd.R_below h0 hb, Kd.R_below h1 hb⟩
theorem FV.more {p r : ByteArray} {bs bs' : List (Bool × Value)} {v : Value} {W : World} (h : FV p r bs v W) (o : Obj) (hbs : ∀ q ∈ bs', q ∈ bs ∨ q.2 = .pointer (some ⟨W.heap.size, 0, none⟩)) : FV p r bs' v (W.alloc o) := by
  obtain ⟨base, v0, v1, e, h0, h1⟩ := h
  have key : ∀ k, ((∀ q ∈ bs, q.1 = true → q.2 ≠ .pointer (some ⟨k, 0, none⟩)) ∧ base ≤ k ∧ k < W.heap.size ∧ ∃ q, q ∈ 60 :: (Kd.int .u8).E ∧ ∃ cells, W.heap[k]? = some (.cells cells q (0, 0))) → ∀ q ∈ bs', q.1 = true → q.2 ≠ .pointer (some ⟨k, 0, none⟩) := by
    rintro k ⟨hk, _, hlt, _⟩ q hq hq1
    rcases hbs q hq with hq' | hq'
    · exact hk q hq' hq1
    · rw [hq']; exact ptr_ne (Nat.ne_of_gt hlt)
  exact ⟨base, v0, v1, e, Kd.R_alloc (Kd.R_mono (Kd.R_bound h0) key) o, Kd.R_alloc (Kd.R_mono (Kd.R_bound h1) key) o⟩
theorem FV.made {p r : ByteArray} {bs : List (Bool × Value)} {v0 v1 : Value} {W W' : World} (h0 : RV W' W.heap.size v0 (bytesOf p)) (h1 : RV W' W.heap.size v1 (bytesOf r)) (hbs : ∀ q ∈ bs, q.1 = true → ∃ g, q.2 = .pointer (some ⟨g, 0, none⟩) ∧ g < W.heap.size) : FV p r bs (.agg #[v0, v1]) W' := by
  have key : ∀ k, (True ∧ W.heap.size ≤ k ∧ k < W'.heap.size ∧ ∃ q, q ∈ 60 :: (Kd.int .u8).E ∧ ∃ cells, W'.heap[k]? = some (.cells cells q (0, 0))) → ∀ q ∈ bs, q.1 = true → q.2 ≠ .pointer (some ⟨k, 0, none⟩) := by
    rintro k ⟨_, hk, _, _⟩ q hq hq1
    obtain ⟨g, e, hg⟩ := hbs q hq hq1
    rw [e]; exact ptr_ne (by omega)
  exact ⟨W.heap.size, v0, v1, rfl, Kd.R_mono (Kd.R_bound h0) key, Kd.R_mono (Kd.R_bound h1) key⟩
theorem NV.lt {base : Nat} {b : Bool} {s : Value} {zs : Array Value} {t : Nat} {W : World} (h : NV base b s zs t W) (hb : b = true) : ∃ g, s = .pointer (some ⟨g, 0, none⟩) ∧ g < W.heap.size := by
  obtain ⟨g, e, _, h2⟩ := h hb
  exact ⟨g, e, blk_lt h2⟩
def zF : Array Value := #[.slice none 0 0, .slice none 0 0]
def zL : Array Value := #[.bool false, .int .u32 0, .int .u32 0]
def zT : Array Value := #[.int .u8 0, .bool false, .int .u32 0, .int .u32 0]
def zG : Array Value := #[.int .u8 0, .bool false]
/-- the four variables, as far as they have come up -/
structure VS (w : World) (b1 b2 b3 b4 : Bool) (s5 s6 s7 s8 : Value) (W : World) : Prop where
  below : Below w.heap.size w W
  n1 : NV w.heap.size b1 s5 zF 56 W
  n2 : NV w.heap.size b2 s6 zL 58 W
  n3 : NV w.heap.size b3 s7 zT 62 W
  n4 : NV w.heap.size b4 s8 zG 65 W
  d12 : DV b1 b2 s5 s6
  d13 : DV b1 b3 s5 s7
  d14 : DV b1 b4 s5 s8
  d23 : DV b2 b3 s6 s7
  d24 : DV b2 b4 s6 s8
  d34 : DV b3 b4 s7 s8
theorem VS.step {w : World} {b1 b2 b3 b4 : Bool} {s5 s6 s7 s8 : Value} {W W' : World} (h : VS w b1 b2 b3 b4 s5 s6 s7 s8 W) (hb : Below W.heap.size W W') : VS w b1 b2 b3 b4 s5 s6 s7 s8 W' :=
  ⟨h.below.trans (hb.mono h.below.size), h.n1.below hb, h.n2.below hb, h.n3.below hb, h.n4.below hb, h.d12, h.d13, h.d14, h.d23, h.d24, h.d34⟩
theorem al (W : World) (o : Obj) : Below W.heap.size W (W.alloc o) := below_alloc (Below.refl _ _) o
theorem VS.a1 {w : World} {b2 b3 b4 : Bool} {s5 s6 s7 s8 : Value} {W : World} (h : VS w false b2 b3 b4 s5 s6 s7 s8 W) : VS w true b2 b3 b4 (.pointer (some ⟨W.heap.size, 0, none⟩)) s6 s7 s8 (W.alloc (.cells zF 56)) :=
  ⟨h.below.trans ((al W _).mono h.below.size), NV.new W h.below.size, h.n2.below (al W _), h.n3.below (al W _), h.n4.below (al W _), (h.n2.ne _).symm, (h.n3.ne _).symm, (h.n4.ne _).symm, h.d23, h.d24, h.d34⟩
theorem VS.a2 {w : World} {b1 b3 b4 : Bool} {s5 s6 s7 s8 : Value} {W : World} (h : VS w b1 false b3 b4 s5 s6 s7 s8 W) : VS w b1 true b3 b4 s5 (.pointer (some ⟨W.heap.size, 0, none⟩)) s7 s8 (W.alloc (.cells zL 58)) :=
  ⟨h.below.trans ((al W _).mono h.below.size), h.n1.below (al W _), NV.new W h.below.size, h.n3.below (al W _), h.n4.below (al W _), h.n1.ne _, h.d13, h.d14, (h.n3.ne _).symm, (h.n4.ne _).symm, h.d34⟩
theorem VS.a3 {w : World} {b1 b2 b4 : Bool} {s5 s6 s7 s8 : Value} {W : World} (h : VS w b1 b2 false b4 s5 s6 s7 s8 W) : VS w b1 b2 true b4 s5 s6 (.pointer (some ⟨W.heap.size, 0, none⟩)) s8 (W.alloc (.cells zT 62)) :=
  ⟨h.below.trans ((al W _).mono h.below.size), h.n1.below (al W _), h.n2.below (al W _), NV.new W h.below.size, h.n4.below (al W _), h.d12, h.n1.ne _, h.d14, h.n2.ne _, h.d24, (h.n4.ne _).symm⟩
theorem VS.a4 {w : World} {b1 b2 b3 : Bool} {s5 s6 s7 s8 : Value} {W : World} (h : VS w b1 b2 b3 false s5 s6 s7 s8 W) : VS w b1 b2 b3 true s5 s6 s7 (.pointer (some ⟨W.heap.size, 0, none⟩)) (W.alloc (.cells zG 65)) :=
  ⟨h.below.trans ((al W _).mono h.below.size), h.n1.below (al W _), h.n2.below (al W _), h.n3.below (al W _), NV.new W h.below.size, h.d12, h.d13, h.n1.ne _, h.d23, h.n2.ne _, h.n3.ne _⟩
theorem VS.news {w : World} {b1 b2 b3 b4 : Bool} {s5 s6 s7 s8 : Value} {W : World} (h : VS w b1 b2 b3 b4 s5 s6 s7 s8 W) : ∀ q ∈ [(b1, s5), (b2, s6), (b3, s7), (b4, s8)], q.1 = true → ∃ g, q.2 = .pointer (some ⟨g, 0, none⟩) ∧ g < W.heap.size := by
  intro q hq hb
  simp only [List.mem_cons, List.not_mem_nil, or_false] at hq
  rcases hq with rfl | rfl | rfl | rfl
  · exact h.n1.lt hb
  · exact h.n2.lt hb
  · exact h.n3.lt hb
  · exact h.n4.lt hb
theorem keepX {X : Nat} {p r : ByteArray} {lm : Bool} {la lb : Int} {tv : Int} {tm : Bool} {ta tb : Int} {gv : Int} {gm : Bool} {w W : World} (h : w.cell? ⟨X, 1, none⟩ = some (.string p) ∧ w.cell? ⟨X, 2, none⟩ = some (.string r) ∧ w.cell? ⟨X, 3, none⟩ = some (.bool lm) ∧ w.cell? ⟨X, 4, none⟩ = some (.int .u32 la) ∧ w.cell? ⟨X, 5, none⟩ = some (.int .u32 lb) ∧ w.cell? ⟨X, 6, none⟩ = some (.int .u8 tv) ∧ w.cell? ⟨X, 7, none⟩ = some (.bool tm) ∧ w.cell? ⟨X, 8, none⟩ = some (.int .u32 ta) ∧ w.cell? ⟨X, 9, none⟩ = some (.int .u32 tb) ∧ w.cell? ⟨X, 10, none⟩ = some (.int .u8 gv) ∧ w.cell? ⟨X, 11, none⟩ = some (.bool gm)) (hb : Below w.heap.size w W) : W.cell? ⟨X, 1, none⟩ = some (.string p) ∧ W.cell? ⟨X, 2, none⟩ = some (.string r) ∧ W.cell? ⟨X, 3, none⟩ = some (.bool lm) ∧ W.cell? ⟨X, 4, none⟩ = some (.int .u32 la) ∧ W.cell? ⟨X, 5, none⟩ = some (.int .u32 lb) ∧ W.cell? ⟨X, 6, none⟩ = some (.int .u8 tv) ∧ W.cell? ⟨X, 7, none⟩ = some (.bool tm) ∧ W.cell? ⟨X, 8, none⟩ = some (.int .u32 ta) ∧ W.cell? ⟨X, 9, none⟩ = some (.int .u32 tb) ∧ W.cell? ⟨X, 10, none⟩ = some (.int .u8 gv) ∧ W.cell? ⟨X, 11, none⟩ = some (.bool gm) :=
  ⟨still hb h.1, still hb h.2.1, still hb h.2.2.1, still hb h.2.2.2.1, still hb h.2.2.2.2.1, still hb h.2.2.2.2.2.1, still hb h.2.2.2.2.2.2.1, still hb h.2.2.2.2.2.2.2.1, still hb h.2.2.2.2.2.2.2.2.1, still hb h.2.2.2.2.2.2.2.2.2.1, still hb h.2.2.2.2.2.2.2.2.2.2⟩
set_option maxRecDepth 100000 in
set_option maxHeartbeats 8000000 in
theorem own3 (Q : Exit → Act → World → Prop) (X : Nat) (p r : ByteArray) (lm : Bool) (la lb : Int) (tv : Int) (tm : Bool) (ta tb : Int) (gv : Int) (gm : Bool) (w : World) {t0 t1 t3 t4 t5 t6 t7 t8 t9 t10 t11 t12 t13 t14 t15 t16 t17 t18 t19 t20 t21 t22 t23 t24 t25 t26 t27 t28 t29 t30 t31 t32 t33 t34 t35 t36 t37 t38 t39 t40 t41 t42 t43 t44 t45 t46 t47 t48 t49 t50 t51 t52 t53 t54 t55 t56 t57 t58 t59 t60 t61 t62 t63 t64 t65 t66 t67 t68 t69 t70 t71 t72 t73 t74 t75 t76 t77 t78 t79 t80 t81 t82 t83 t84 t85 t86 t87 t88 t89 t90 t91 t92 t93 t94 t95 t96 t97 t98 t99 t100 t101 t102 t103 t104 t105 t106 t107 t108 t109 t110 t111 t112 t113 t114 t115 t116 t117 t118 t119 t120 t121 t122 t123 t124 t125 t126 t127 t128 t129 t130 t131 t132 t133 t134 t135 t136 t137 t138 t139 t140 t141 t142 t143 t144 t145 t146 t147 t148 t149 t150 t151 t152 t153 t154 t155 t156 t157 t158 t159 t160 t161 t162 t163 t164 t165 t166 t167 t168 t169 t170 t171 t172 t173 t174 t175 t176 t177 t178 t179 t180 t181 t182 t183 t184 t185 t186 t187 t188 t189 t190 t191 t192 t193 t194 t195 t196 t197 t198 t199 t200 t201 t202 t203 t204 : Value} (hp : p.size ≤ 1000) (hr : r.size ≤ 1000) (hx : w.cell? ⟨X, 1, none⟩ = some (.string p) ∧ w.cell? ⟨X, 2, none⟩ = some (.string r) ∧ w.cell? ⟨X, 3, none⟩ = some (.bool lm) ∧ w.cell? ⟨X, 4, none⟩ = some (.int .u32 la) ∧ w.cell? ⟨X, 5, none⟩ = some (.int .u32 lb) ∧ w.cell? ⟨X, 6, none⟩ = some (.int .u8 tv) ∧ w.cell? ⟨X, 7, none⟩ = some (.bool tm) ∧ w.cell? ⟨X, 8, none⟩ = some (.int .u32 ta) ∧ w.cell? ⟨X, 9, none⟩ = some (.int .u32 tb) ∧ w.cell? ⟨X, 10, none⟩ = some (.int .u8 gv) ∧ w.cell? ⟨X, 11, none⟩ = some (.bool gm))
    (hq : ∀ (g5 g6 g7 g8 : Nat) (v0 v1 : Value) (s37 s38 s39 s40 s41 s42 s43 s44 s45 s46 s47 s48 : Value) (base : Nat) (W : World), VS w true true true true (.pointer (some ⟨g5, 0, none⟩)) (.pointer (some ⟨g6, 0, none⟩)) (.pointer (some ⟨g7, 0, none⟩)) (.pointer (some ⟨g8, 0, none⟩)) W → FV p r [(true, .pointer (some ⟨g5, 0, none⟩)), (true, .pointer (some ⟨g6, 0, none⟩)), (true, .pointer (some ⟨g7, 0, none⟩)), (true, .pointer (some ⟨g8, 0, none⟩))] (.agg #[v0, v1]) W →
      Q .normal ({ tmps := #[t0, t1, .pointer (some ⟨X, 0, none⟩), t3, t4, .pointer (some ⟨g5, 0, none⟩), .pointer (some ⟨g6, 0, none⟩), .pointer (some ⟨g7, 0, none⟩), .pointer (some ⟨g8, 0, none⟩), t9, t10, t11, t12, t13, t14, t15, t16, t17, t18, t19, t20, t21, t22, t23, t24, t25, t26, t27, t28, t29, t30, t31, t32, t33, t34, t35, t36, s37, s38, s39, s40, s41, s42, s43, s44, s45, s46, s47, s48, t49, t50, t51, t52, t53, t54, t55, t56, t57, t58, t59, t60, t61, t62, t63, t64, t65, t66, t67, t68, t69, t70, t71, t72, t73, t74, t75, t76, t77, t78, t79, t80, t81, t82, t83, t84, t85, t86, t87, t88, t89, t90, t91, t92, t93, t94, t95, t96, t97, t98, t99, t100, t101, t102, t103, t104, t105, t106, t107, t108, t109, t110, t111, t112, t113, t114, t115, t116, t117, t118, t119, t120, t121, t122, t123, t124, t125, t126, t127, t128, t129, t130, t131, t132, t133, t134, t135, t136, t137, t138, t139, t140, t141, t142, t143, t144, t145, t146, t147, t148, t149, t150, t151, t152, t153, t154, t155, t156, t157, t158, t159, t160, t161, t162, t163, t164, t165, t166, t167, t168, t169, t170, t171, t172, t173, t174, t175, t176, t177, t178, t179, t180, t181, t182, t183, t184, t185, t186, t187, t188, t189, t190, t191, t192, t193, t194, t195, t196, t197, t198, t199, t200, t201, t202, t203, t204], defers := [] } : Act) (((((((((((W.setCell ⟨g5, 0, none⟩ v0).setCell ⟨g5, 1, none⟩ v1).setCell ⟨g6, 0, none⟩ (.bool lm)).setCell ⟨g6, 1, none⟩ (.int .u32 la)).setCell ⟨g6, 2, none⟩ (.int .u32 lb)).setCell ⟨g7, 0, none⟩ (.int .u8 tv)).setCell ⟨g7, 1, none⟩ (.bool tm)).setCell ⟨g7, 2, none⟩ (.int .u32 ta)).setCell ⟨g7, 3, none⟩ (.int .u32 tb)).setCell ⟨g8, 0, none⟩ (.int .u8 gv)).setCell ⟨g8, 1, none⟩ (.bool gm))) :
    (Code.region 3 #[{ dst := some 37, op := Go.Op.fieldAddr 53 (Go.Operand.tmp 2) 1, type := 0, pos := "law.go:96", after := #[], guard := none },
    { dst := some 38, op := Go.Op.load 44 (Go.Operand.tmp 37), type := 44, pos := "law.go:96", after := #[{ on := 0, ground := Go.Ground.data }], guard := none },
    { dst := some 39, op := Go.Op.call { callee := Go.Callee.value (Go.Operand.func 18), args := #[Go.Operand.tmp 38], argTypes := #[44] }, type := 56, pos := "law.go:96", after := #[{ on := 1, ground := Go.Ground.data }], guard := none },
    { dst := some 40, op := Go.Op.fieldAddr 53 (Go.Operand.tmp 2) 2, type := 0, pos := "law.go:96", after := #[], guard := none },
    { dst := some 41, op := Go.Op.load 47 (Go.Operand.tmp 40), type := 47, pos := "law.go:96", after := #[{ on := 3, ground := Go.Ground.data }], guard := none },
    { dst := some 42, op := Go.Op.call { callee := Go.Callee.value (Go.Operand.func 19), args := #[Go.Operand.tmp 41], argTypes := #[47] }, type := 58, pos := "law.go:96", after := #[{ on := 4, ground := Go.Ground.data }, { on := 2, ground := Go.Ground.chain }], guard := none },
    { dst := some 43, op := Go.Op.fieldAddr 53 (Go.Operand.tmp 2) 3, type := 0, pos := "law.go:96", after := #[], guard := none },
    { dst := some 44, op := Go.Op.load 49 (Go.Operand.tmp 43), type := 49, pos := "law.go:96", after := #[{ on := 6, ground := Go.Ground.data }], guard := none },
    { dst := some 45, op := Go.Op.call { callee := Go.Callee.value (Go.Operand.func 20), args := #[Go.Operand.tmp 44], argTypes := #[49] }, type := 62, pos := "law.go:96", after := #[{ on := 7, ground := Go.Ground.data }, { on := 5, ground := Go.Ground.chain }], guard := none },
    { dst := some 46, op := Go.Op.fieldAddr 53 (Go.Operand.tmp 2) 4, type := 0, pos := "law.go:96", after := #[], guard := none },
    { dst := some 47, op := Go.Op.load 51 (Go.Operand.tmp 46), type := 51, pos := "law.go:96", after := #[{ on := 9, ground := Go.Ground.data }], guard := none },
    { dst := some 48, op := Go.Op.call { callee := Go.Callee.value (Go.Operand.func 21), args := #[Go.Operand.tmp 47], argTypes := #[51] }, type := 65, pos := "law.go:96", after := #[{ on := 10, ground := Go.Ground.data }, { on := 8, ground := Go.Ground.chain }], guard := none },
    { dst := some 5, op := Go.Op.alloc 56, type := 0, pos := "law.go:96", after := #[], guard := none },
    { dst := some 6, op := Go.Op.alloc 58, type := 0, pos := "law.go:96", after := #[], guard := none },
    { dst := some 7, op := Go.Op.alloc 62, type := 0, pos := "law.go:96", after := #[], guard := none },
    { dst := some 8, op := Go.Op.alloc 65, type := 0, pos := "law.go:96", after := #[], guard := none },
    { dst := none, op := Go.Op.store 56 (Go.Operand.tmp 5) (Go.Operand.tmp 39), type := 0, pos := "law.go:96", after := #[{ on := 12, ground := Go.Ground.data }, { on := 2, ground := Go.Ground.data }, { on := 11, ground := Go.Ground.chain }, { on := 0, ground := Go.Ground.phase }, { on := 1, ground := Go.Ground.phase }, { on := 2, ground := Go.Ground.phase }, { on := 3, ground := Go.Ground.textOnly Go.Departure.lateStores }, { on := 4, ground := Go.Ground.textOnly Go.Departure.lateStores }, { on := 5, ground := Go.Ground.textOnly Go.Departure.lateStoresUnsure }, { on := 6, ground := Go.Ground.textOnly Go.Departure.lateStores }, { on := 7, ground := Go.Ground.textOnly Go.Departure.lateStores }, { on := 8, ground := Go.Ground.textOnly Go.Departure.lateStoresUnsure }, { on := 9, ground := Go.Ground.textOnly Go.Departure.lateStores }, { on := 10, ground := Go.Ground.textOnly Go.Departure.lateStores }, { on := 11, ground := Go.Ground.textOnly Go.Departure.lateStoresUnsure }, { on := 12, ground := Go.Ground.phase }, { on := 13, ground := Go.Ground.phase }, { on := 14, ground := Go.Ground.phase }, { on := 15, ground := Go.Ground.phase }], guard := none },
    { dst := none, op := Go.Op.store 58 (Go.Operand.tmp 6) (Go.Operand.tmp 42), type := 0, pos := "law.go:96", after := #[{ on := 13, ground := Go.Ground.data }, { on := 5, ground := Go.Ground.data }, { on := 16, ground := Go.Ground.chain }, { on := 0, ground := Go.Ground.phase }, { on := 1, ground := Go.Ground.phase }, { on := 2, ground := Go.Ground.phase }, { on := 3, ground := Go.Ground.phase }, { on := 4, ground := Go.Ground.phase }, { on := 5, ground := Go.Ground.phase }, { on := 6, ground := Go.Ground.textOnly Go.Departure.lateStores }, { on := 7, ground := Go.Ground.textOnly Go.Departure.lateStores }, { on := 8, ground := Go.Ground.textOnly Go.Departure.lateStoresUnsure }, { on := 9, ground := Go.Ground.textOnly Go.Departure.lateStores }, { on := 10, ground := Go.Ground.textOnly Go.Departure.lateStores }, { on := 11, ground := Go.Ground.textOnly Go.Departure.lateStoresUnsure }, { on := 12, ground := Go.Ground.phase }, { on := 13, ground := Go.Ground.phase }, { on := 14, ground := Go.Ground.phase }, { on := 15, ground := Go.Ground.phase }, { on := 16, ground := Go.Ground.phase }], guard := none },
    { dst := none, op := Go.Op.store 62 (Go.Operand.tmp 7) (Go.Operand.tmp 45), type := 0, pos := "law.go:96", after := #[{ on := 14, ground := Go.Ground.data }, { on := 8, ground := Go.Ground.data }, { on := 17, ground := Go.Ground.chain }, { on := 0, ground := Go.Ground.phase }, { on := 1, ground := Go.Ground.phase }, { on := 2, ground := Go.Ground.phase }, { on := 3, ground := Go.Ground.phase }, { on := 4, ground := Go.Ground.phase }, { on := 5, ground := Go.Ground.phase }, { on := 6, ground := Go.Ground.phase }, { on := 7, ground := Go.Ground.phase }, { on := 8, ground := Go.Ground.phase }, { on := 9, ground := Go.Ground.textOnly Go.Departure.lateStores }, { on := 10, ground := Go.Ground.textOnly Go.Departure.lateStores }, { on := 11, ground := Go.Ground.textOnly Go.Departure.lateStoresUnsure }, { on := 12, ground := Go.Ground.phase }, { on := 13, ground := Go.Ground.phase }, { on := 14, ground := Go.Ground.phase }, { on := 15, ground := Go.Ground.phase }, { on := 16, ground := Go.Ground.phase }, { on := 17, ground := Go.Ground.phase }], guard := none },
    { dst := none, op := Go.Op.store 65 (Go.Operand.tmp 8) (Go.Operand.tmp 48), type := 0, pos := "law.go:96", after := #[{ on := 15, ground := Go.Ground.data }, { on := 11, ground := Go.Ground.data }, { on := 18, ground := Go.Ground.chain }, { on := 0, ground := Go.Ground.phase }, { on := 1, ground := Go.Ground.phase }, { on := 2, ground := Go.Ground.phase }, { on := 3, ground := Go.Ground.phase }, { on := 4, ground := Go.Ground.phase }, { on := 5, ground := Go.Ground.phase }, { on := 6, ground := Go.Ground.phase }, { on := 7, ground := Go.Ground.phase }, { on := 8, ground := Go.Ground.phase }, { on := 9, ground := Go.Ground.phase }, { on := 10, ground := Go.Ground.phase }, { on := 11, ground := Go.Ground.phase }, { on := 12, ground := Go.Ground.phase }, { on := 13, ground := Go.Ground.phase }, { on := 14, ground := Go.Ground.phase }, { on := 15, ground := Go.Ground.phase }, { on := 16, ground := Go.Ground.phase }, { on := 17, ground := Go.Ground.phase }, { on := 18, ground := Go.Ground.phase }], guard := none }] true).wp Tryd.prog Q ({ tmps := #[t0, t1, .pointer (some ⟨X, 0, none⟩), t3, t4, t5, t6, t7, t8, t9, t10, t11, t12, t13, t14, t15, t16, t17, t18, t19, t20, t21, t22, t23, t24, t25, t26, t27, t28, t29, t30, t31, t32, t33, t34, t35, t36, t37, t38, t39, t40, t41, t42, t43, t44, t45, t46, t47, t48, t49, t50, t51, t52, t53, t54, t55, t56, t57, t58, t59, t60, t61, t62, t63, t64, t65, t66, t67, t68, t69, t70, t71, t72, t73, t74, t75, t76, t77, t78, t79, t80, t81, t82, t83, t84, t85, t86, t87, t88, t89, t90, t91, t92, t93, t94, t95, t96, t97, t98, t99, t100, t101, t102, t103, t104, t105, t106, t107, t108, t109, t110, t111, t112, t113, t114, t115, t116, t117, t118, t119, t120, t121, t122, t123, t124, t125, t126, t127, t128, t129, t130, t131, t132, t133, t134, t135, t136, t137, t138, t139, t140, t141, t142, t143, t144, t145, t146, t147, t148, t149, t150, t151, t152, t153, t154, t155, t156, t157, t158, t159, t160, t161, t162, t163, t164, t165, t166, t167, t168, t169, t170, t171, t172, t173, t174, t175, t176, t177, t178, t179, t180, t181, t182, t183, t184, t185, t186, t187, t188, t189, t190, t191, t192, t193, t194, t195, t196, t197, t198, t199, t200, t201, t202, t203, t204], defers := [] } : Act) w := by
  have hq := hid hq
  have hu1 := Tryd.underlying56
  have hu2 := Tryd.underlying58
  have hu3 := Tryd.underlying62
  have hu4 := Tryd.underlying65
  have HX := hid hx
  refine wp_region_noPanic ?_
  refine wp_region_held_drew (S := fun W => W.cell? ⟨X, 1, none⟩ = some (.string p) ∧ W.cell? ⟨X, 2, none⟩ = some (.string r) ∧ W.cell? ⟨X, 3, none⟩ = some (.bool lm) ∧ W.cell? ⟨X, 4, none⟩ = some (.int .u32 la) ∧ W.cell? ⟨X, 5, none⟩ = some (.int .u32 lb) ∧ W.cell? ⟨X, 6, none⟩ = some (.int .u8 tv) ∧ W.cell? ⟨X, 7, none⟩ = some (.bool tm) ∧ W.cell? ⟨X, 8, none⟩ = some (.int .u32 ta) ∧ W.cell? ⟨X, 9, none⟩ = some (.int .u32 tb) ∧ W.cell? ⟨X, 10, none⟩ = some (.int .u8 gv) ∧ W.cell? ⟨X, 11, none⟩ = some (.bool gm)) (by kernel_rfl) ?hS (fun hHeld => ?go)
  case hS => exact keepX hx (Below.drew (Below.refl _ _))
  clear hx
  refine wpAnyH_take (i := 0) (oi := { dst := some 37, op := Go.Op.fieldAddr 53 (Go.Operand.tmp 2) 1, type := 0, pos := "law.go:96", after := #[], guard := none }) (v := ?_) rfl (by kernel_rfl) (by kernel_rfl) (by kernel_rfl) (fun _ _ _ h => h) (Or.inl ⟨by rfl, ?hy0⟩) (by assumption) ?rest0
  case hy0 => (intro w hSw; (try dsimp only at hSw); go_simp; first | (with_reducible rfl) | (rw [if_neg (by omega)]) | skip)
  simp only [Act.put, List.setIfInBounds_toArray, List.set_cons_zero, List.set_cons_succ]
  refine wpAnyH_take (i := 1) (oi := { dst := some 38, op := Go.Op.load 44 (Go.Operand.tmp 37), type := 44, pos := "law.go:96", after := #[{ on := 0, ground := Go.Ground.data }], guard := none }) (v := ?_) rfl (by kernel_rfl) (by kernel_rfl) (by kernel_rfl) (fun _ _ _ h => h) (Or.inl ⟨by rfl, ?hy1⟩) (by assumption) ?rest1
  case hy1 => (intro w hSw; (try dsimp only at hSw); go_simp; first | (with_reducible rfl) | (rw [if_neg (by omega)]) | skip)
  simp only [Act.put, List.setIfInBounds_toArray, List.set_cons_zero, List.set_cons_succ]
  refine wpAnyH_take (i := 3) (oi := { dst := some 40, op := Go.Op.fieldAddr 53 (Go.Operand.tmp 2) 2, type := 0, pos := "law.go:96", after := #[], guard := none }) (v := ?_) rfl (by kernel_rfl) (by kernel_rfl) (by kernel_rfl) (fun _ _ _ h => h) (Or.inl ⟨by rfl, ?hy3⟩) (by assumption) ?rest3
  case hy3 => (intro w hSw; (try dsimp only at hSw); go_simp; first | (with_reducible rfl) | (rw [if_neg (by omega)]) | skip)
  simp only [Act.put, List.setIfInBounds_toArray, List.set_cons_zero, List.set_cons_succ]
  refine wpAnyH_take (i := 4) (oi := { dst := some 41, op := Go.Op.load 47 (Go.Operand.tmp 40), type := 47, pos := "law.go:96", after := #[{ on := 3, ground := Go.Ground.data }], guard := none }) (v := ?_) rfl (by kernel_rfl) (by kernel_rfl) (by kernel_rfl) (fun _ _ _ h => h) (Or.inl ⟨by rfl, ?hy4⟩) (by assumption) ?rest4
  case hy4 => (intro w hSw; (try dsimp only at hSw); go_simp; first | (with_reducible rfl) | (rw [if_neg (by omega)]) | skip)
  simp only [Act.put, List.setIfInBounds_toArray, List.set_cons_zero, List.set_cons_succ]
  refine wpAnyH_take (i := 6) (oi := { dst := some 43, op := Go.Op.fieldAddr 53 (Go.Operand.tmp 2) 3, type := 0, pos := "law.go:96", after := #[], guard := none }) (v := ?_) rfl (by kernel_rfl) (by kernel_rfl) (by kernel_rfl) (fun _ _ _ h => h) (Or.inl ⟨by rfl, ?hy6⟩) (by assumption) ?rest6
  case hy6 => (intro w hSw; (try dsimp only at hSw); go_simp; first | (with_reducible rfl) | (rw [if_neg (by omega)]) | skip)
  simp only [Act.put, List.setIfInBounds_toArray, List.set_cons_zero, List.set_cons_succ]
  refine wpAnyH_take (i := 7) (oi := { dst := some 44, op := Go.Op.load 49 (Go.Operand.tmp 43), type := 49, pos := "law.go:96", after := #[{ on := 6, ground := Go.Ground.data }], guard := none }) (v := ?_) rfl (by kernel_rfl) (by kernel_rfl) (by kernel_rfl) (fun _ _ _ h => h) (Or.inl ⟨by rfl, ?hy7⟩) (by assumption) ?rest7
  case hy7 => (intro w hSw; (try dsimp only at hSw); go_simp; first | (with_reducible rfl) | (rw [if_neg (by omega)]) | skip)
  simp only [Act.put, List.setIfInBounds_toArray, List.set_cons_zero, List.set_cons_succ]
  refine wpAnyH_take (i := 9) (oi := { dst := some 46, op := Go.Op.fieldAddr 53 (Go.Operand.tmp 2) 4, type := 0, pos := "law.go:96", after := #[], guard := none }) (v := ?_) rfl (by kernel_rfl) (by kernel_rfl) (by kernel_rfl) (fun _ _ _ h => h) (Or.inl ⟨by rfl, ?hy9⟩) (by assumption) ?rest9
  case hy9 => (intro w hSw; (try dsimp only at hSw); go_simp; first | (with_reducible rfl) | (rw [if_neg (by omega)]) | skip)
  simp only [Act.put, List.setIfInBounds_toArray, List.set_cons_zero, List.set_cons_succ]
  refine wpAnyH_take (i := 10) (oi := { dst := some 47, op := Go.Op.load 51 (Go.Operand.tmp 46), type := 51, pos := "law.go:96", after := #[{ on := 9, ground := Go.Ground.data }], guard := none }) (v := ?_) rfl (by kernel_rfl) (by kernel_rfl) (by kernel_rfl) (fun _ _ _ h => h) (Or.inl ⟨by rfl, ?hy10⟩) (by assumption) ?rest10
  case hy10 => (intro w hSw; (try dsimp only at hSw); go_simp; first | (with_reducible rfl) | (rw [if_neg (by omega)]) | skip)
  simp only [Act.put, List.setIfInBounds_toArray, List.set_cons_zero, List.set_cons_succ]
  refine @float4 Tryd.prog _ _ _ (fun c b1 b2 b3 b4 a W => ∃ s39 s42 s45 s48 s5 s6 s7 s8 : Value, a = ({ tmps := #[t0, t1, .pointer (some ⟨X, 0, none⟩), t3, t4, s5, s6, s7, s8, t9, t10, t11, t12, t13, t14, t15, t16, t17, t18, t19, t20, t21, t22, t23, t24, t25, t26, t27, t28, t29, t30, t31, t32, t33, t34, t35, t36, .pointer (some ⟨X, 1, none⟩), .agg #[.string p, .string r], s39, .pointer (some ⟨X, 3, none⟩), .agg #[.bool lm, .int .u32 la, .int .u32 lb], s42, .pointer (some ⟨X, 6, none⟩), .agg #[.int .u8 tv, .bool tm, .int .u32 ta, .int .u32 tb], s45, .pointer (some ⟨X, 10, none⟩), .agg #[.int .u8 gv, .bool gm], s48, t49, t50, t51, t52, t53, t54, t55, t56, t57, t58, t59, t60, t61, t62, t63, t64, t65, t66, t67, t68, t69, t70, t71, t72, t73, t74, t75, t76, t77, t78, t79, t80, t81, t82, t83, t84, t85, t86, t87, t88, t89, t90, t91, t92, t93, t94, t95, t96, t97, t98, t99, t100, t101, t102, t103, t104, t105, t106, t107, t108, t109, t110, t111, t112, t113, t114, t115, t116, t117, t118, t119, t120, t121, t122, t123, t124, t125, t126, t127, t128, t129, t130, t131, t132, t133, t134, t135, t136, t137, t138, t139, t140, t141, t142, t143, t144, t145, t146, t147, t148, t149, t150, t151, t152, t153, t154, t155, t156, t157, t158, t159, t160, t161, t162, t163, t164, t165, t166, t167, t168, t169, t170, t171, t172, t173, t174, t175, t176, t177, t178, t179, t180, t181, t182, t183, t184, t185, t186, t187, t188, t189, t190, t191, t192, t193, t194, t195, t196, t197, t198, t199, t200, t201, t202, t203, t204], defers := [] } : Act) ∧ VS w b1 b2 b3 b4 s5 s6 s7 s8 W ∧ (1 ≤ c → FV p r [(b1, s5), (b2, s6), (b3, s7), (b4, s8)] s39 W) ∧ (2 ≤ c → s42 = .agg #[.bool lm, .int .u32 la, .int .u32 lb]) ∧ (3 ≤ c → s45 = .agg #[.int .u8 tv, .bool tm, .int .u32 ta, .int .u32 tb]) ∧ (4 ≤ c → s48 = .agg #[.int .u8 gv, .bool gm])) ready3 ?fS ?f0 ?f1 ?f2 ?f3 ?a1 ?a2 ?a3 ?a4 4 ?fe 8 0 false false false false _ _ (by omega) rfl ⟨_, _, _, _, _, _, _, _, rfl, ⟨Below.drew (Below.refl _ _), NV.off, NV.off, NV.off, NV.off, DV.off, DV.off, DV.off, DV.off, DV.off, DV.off⟩, fun h => by omega, fun h => by omega, fun h => by omega, fun h => by omega⟩
  case fS =>
    rintro c b1 b2 b3 b4 a W ⟨s39, s42, s45, s48, s5, s6, s7, s8, rfl, hV, _⟩
    exact keepX HX.out hV.below
  case f0 =>
    rintro b1 b2 b3 b4 a W ⟨s39, s42, s45, s48, s5, s6, s7, s8, rfl, hV, h1, h2, h3, h4⟩ K hk
    have HV := hid hV
    have HK := hid hk
    have H1 := hid h1
    have H2 := hid h2
    have H3 := hid h3
    have H4 := hid h4
    clear hV hk h1 h2 h3 h4
    refine wpOp_step (o := { dst := some 39, op := Go.Op.call { callee := Go.Callee.value (Go.Operand.func 18), args := #[Go.Operand.tmp 38], argTypes := #[44] }, type := 56, pos := "law.go:96", after := #[{ on := 1, ground := Go.Ground.data }], guard := none }) rfl (fun K' hK => ?_)
    replace hK := hid hK
    go_simp
    go_at_call 18; (with_reducible refine (ofunc_walk p r _ hp hr).mono ?_); rintro e w1 ⟨v0, v1, rfl, hv0, hv1, hb1⟩
    exact hK.out _ _ (HK.out _ _ ⟨_, s42, s45, s48, s5, s6, s7, s8, rfl, HV.out.step hb1, fun _ => FV.made hv0 hv1 HV.out.news, fun h => by omega, fun h => by omega, fun h => by omega⟩)
  case f1 =>
    rintro b1 b2 b3 b4 a W ⟨s39, s42, s45, s48, s5, s6, s7, s8, rfl, hV, h1, h2, h3, h4⟩ K hk
    have HV := hid hV
    have HK := hid hk
    have H1 := hid h1
    have H2 := hid h2
    have H3 := hid h3
    have H4 := hid h4
    clear hV hk h1 h2 h3 h4
    refine wpOp_step (o := { dst := some 42, op := Go.Op.call { callee := Go.Callee.value (Go.Operand.func 19), args := #[Go.Operand.tmp 41], argTypes := #[47] }, type := 58, pos := "law.go:96", after := #[{ on := 4, ground := Go.Ground.data }, { on := 2, ground := Go.Ground.chain }], guard := none }) rfl (fun K' hK => ?_)
    replace hK := hid hK
    go_simp
    go_at_call 19; (with_reducible refine (olim_walk lm la lb _).mono ?_); rintro e w1 ⟨rfl, hb1⟩
    exact hK.out _ _ (HK.out _ _ ⟨s39, _, s45, s48, s5, s6, s7, s8, rfl, HV.out.step hb1, fun _ => (H1.out (by omega)).below hb1, fun _ => rfl, fun h => by omega, fun h => by omega⟩)
  case f2 =>
    rintro b1 b2 b3 b4 a W ⟨s39, s42, s45, s48, s5, s6, s7, s8, rfl, hV, h1, h2, h3, h4⟩ K hk
    have HV := hid hV
    have HK := hid hk
    have H1 := hid h1
    have H2 := hid h2
    have H3 := hid h3
    have H4 := hid h4
    clear hV hk h1 h2 h3 h4
    refine wpOp_step (o := { dst := some 45, op := Go.Op.call { callee := Go.Callee.value (Go.Operand.func 20), args := #[Go.Operand.tmp 44], argTypes := #[49] }, type := 62, pos := "law.go:96", after := #[{ on := 7, ground := Go.Ground.data }, { on := 5, ground := Go.Ground.chain }], guard := none }) rfl (fun K' hK => ?_)
    replace hK := hid hK
    go_simp
    go_at_call 20; (with_reducible refine (otab_walk tv tm ta tb _).mono ?_); rintro e w1 ⟨rfl, hb1⟩
    exact hK.out _ _ (HK.out _ _ ⟨s39, s42, _, s48, s5, s6, s7, s8, rfl, HV.out.step hb1, fun _ => (H1.out (by omega)).below hb1, fun _ => H2.out (by omega), fun _ => rfl, fun h => by omega⟩)
  case f3 =>
    rintro b1 b2 b3 b4 a W ⟨s39, s42, s45, s48, s5, s6, s7, s8, rfl, hV, h1, h2, h3, h4⟩ K hk
    have HV := hid hV
    have HK := hid hk
    have H1 := hid h1
    have H2 := hid h2
    have H3 := hid h3
    have H4 := hid h4
    clear hV hk h1 h2 h3 h4
    refine wpOp_step (o := { dst := some 48, op := Go.Op.call { callee := Go.Callee.value (Go.Operand.func 21), args := #[Go.Operand.tmp 47], argTypes := #[51] }, type := 65, pos := "law.go:96", after := #[{ on := 10, ground := Go.Ground.data }, { on := 8, ground := Go.Ground.chain }], guard := none }) rfl (fun K' hK => ?_)
    replace hK := hid hK
    go_simp
    go_at_call 21; (with_reducible refine (oglob_walk gv gm _).mono ?_); rintro e w1 ⟨rfl, hb1⟩
    exact hK.out _ _ (HK.out _ _ ⟨s39, s42, s45, _, s5, s6, s7, s8, rfl, HV.out.step hb1, fun _ => (H1.out (by omega)).below hb1, fun _ => H2.out (by omega), fun _ => H3.out (by omega), fun _ => rfl⟩)
  case a1 =>
    rintro c b2 b3 b4 a W ⟨s39, s42, s45, s48, s5, s6, s7, s8, rfl, hV, h1, h2, h3, h4⟩ K hk
    have HV := hid hV
    have HK := hid hk
    have H1 := hid h1
    have H2 := hid h2
    have H3 := hid h3
    have H4 := hid h4
    clear hV hk h1 h2 h3 h4
    refine wpOp_step (o := { dst := some 5, op := Go.Op.alloc 56, type := 0, pos := "law.go:96", after := #[], guard := none }) rfl (fun K' hK => ?_)
    replace hK := hid hK
    go_simp
    exact hK.out _ _ (HK.out _ _ ⟨s39, s42, s45, s48, _, s6, s7, s8, rfl, HV.out.a1, fun h => (H1.out h).more _ (by intro q hq; simp only [List.mem_cons, List.not_mem_nil, or_false] at hq ⊢; rcases hq with rfl | rfl | rfl | rfl <;> simp), H2.out, H3.out, H4.out⟩)
  case a2 =>
    rintro c b1 b3 b4 a W ⟨s39, s42, s45, s48, s5, s6, s7, s8, rfl, hV, h1, h2, h3, h4⟩ K hk
    have HV := hid hV
    have HK := hid hk
    have H1 := hid h1
    have H2 := hid h2
    have H3 := hid h3
    have H4 := hid h4
    clear hV hk h1 h2 h3 h4
    refine wpOp_step (o := { dst := some 6, op := Go.Op.alloc 58, type := 0, pos := "law.go:96", after := #[], guard := none }) rfl (fun K' hK => ?_)
    replace hK := hid hK
    go_simp
    exact hK.out _ _ (HK.out _ _ ⟨s39, s42, s45, s48, s5, _, s7, s8, rfl, HV.out.a2, fun h => (H1.out h).more _ (by intro q hq; simp only [List.mem_cons, List.not_mem_nil, or_false] at hq ⊢; rcases hq with rfl | rfl | rfl | rfl <;> simp), H2.out, H3.out, H4.out⟩)
  case a3 =>
    rintro c b1 b2 b4 a W ⟨s39, s42, s45, s48, s5, s6, s7, s8, rfl, hV, h1, h2, h3, h4⟩ K hk
    have HV := hid hV
    have HK := hid hk
    have H1 := hid h1
    have H2 := hid h2
    have H3 := hid h3
    have H4 := hid h4
    clear hV hk h1 h2 h3 h4
    refine wpOp_step (o := { dst := some 7, op := Go.Op.alloc 62, type := 0, pos := "law.go:96", after := #[], guard := none }) rfl (fun K' hK => ?_)
    replace hK := hid hK
    go_simp
    exact hK.out _ _ (HK.out _ _ ⟨s39, s42, s45, s48, s5, s6, _, s8, rfl, HV.out.a3, fun h => (H1.out h).more _ (by intro q hq; simp only [List.mem_cons, List.not_mem_nil, or_false] at hq ⊢; rcases hq with rfl | rfl | rfl | rfl <;> simp), H2.out, H3.out, H4.out⟩)
  case a4 =>
    rintro c b1 b2 b3 a W ⟨s39, s42, s45, s48, s5, s6, s7, s8, rfl, hV, h1, h2, h3, h4⟩ K hk
    have HV := hid hV
    have HK := hid hk
    have H1 := hid h1
    have H2 := hid h2
    have H3 := hid h3
    have H4 := hid h4
    clear hV hk h1 h2 h3 h4
    refine wpOp_step (o := { dst := some 8, op := Go.Op.alloc 65, type := 0, pos := "law.go:96", after := #[], guard := none }) rfl (fun K' hK => ?_)
    replace hK := hid hK
    go_simp
    exact hK.out _ _ (HK.out _ _ ⟨s39, s42, s45, s48, s5, s6, s7, _, rfl, HV.out.a4, fun h => (H1.out h).more _ (by intro q hq; simp only [List.mem_cons, List.not_mem_nil, or_false] at hq ⊢; rcases hq with rfl | rfl | rfl | rfl <;> simp), H2.out, H3.out, H4.out⟩)
  case fe =>
    rintro a W ⟨s39, s42, s45, s48, s5, s6, s7, s8, rfl, hV, h1, h2, h3, h4⟩
    obtain ⟨base, v0, v1, rfl, hv0, hv1⟩ := h1 (by omega)
    obtain ⟨A0, c0, rfl⟩ := Kd.R_slice hv0
    obtain ⟨A1, c1, rfl⟩ := Kd.R_slice hv1
    obtain rfl := h2 (by omega)
    obtain rfl := h3 (by omega)
    obtain rfl := h4 (by omega)
    obtain ⟨g5, rfl, q5, k5⟩ := hV.n1 rfl
    obtain ⟨g6, rfl, q6, k6⟩ := hV.n2 rfl
    obtain ⟨g7, rfl, q7, k7⟩ := hV.n3 rfl
    obtain ⟨g8, rfl, q8, k8⟩ := hV.n4 rfl
    have HV := hid hV
    have HF := hid (show FV p r [(true, .pointer (some ⟨g5, 0, none⟩)), (true, .pointer (some ⟨g6, 0, none⟩)), (true, .pointer (some ⟨g7, 0, none⟩)), (true, .pointer (some ⟨g8, 0, none⟩))] (.agg #[.slice A0 (bytesOf p).length c0, .slice A1 (bytesOf r).length c1]) W from ⟨base, _, _, rfl, hv0, hv1⟩)
    have HB := hid hV.below
    have p56 : g5 ≠ g6 := fun e => hV.d12 rfl rfl (by rw [e])
    have p57 : g5 ≠ g7 := fun e => hV.d13 rfl rfl (by rw [e])
    have p58 : g5 ≠ g8 := fun e => hV.d14 rfl rfl (by rw [e])
    have p67 : g6 ≠ g7 := fun e => hV.d23 rfl rfl (by rw [e])
    have p68 : g6 ≠ g8 := fun e => hV.d24 rfl rfl (by rw [e])
    have p78 : g7 ≠ g8 := fun e => hV.d34 rfl rfl (by rw [e])
    have z50 : W.cell? ⟨g5, 0, none⟩ = some (.slice none 0 0) := blk_cell k5 0
    have z51 : W.cell? ⟨g5, 1, none⟩ = some (.slice none 0 0) := blk_cell k5 1
    have z60 : W.cell? ⟨g6, 0, none⟩ = some (.bool false) := blk_cell k6 0
    have z61 : W.cell? ⟨g6, 1, none⟩ = some (.int .u32 0) := blk_cell k6 1
    have z62 : W.cell? ⟨g6, 2, none⟩ = some (.int .u32 0) := blk_cell k6 2
    have z70 : W.cell? ⟨g7, 0, none⟩ = some (.int .u8 0) := blk_cell k7 0
    have z71 : W.cell? ⟨g7, 1, none⟩ = some (.bool false) := blk_cell k7 1
    have z72 : W.cell? ⟨g7, 2, none⟩ = some (.int .u32 0) := blk_cell k7 2
    have z73 : W.cell? ⟨g7, 3, none⟩ = some (.int .u32 0) := blk_cell k7 3
    have z80 : W.cell? ⟨g8, 0, none⟩ = some (.int .u8 0) := blk_cell k8 0
    have z81 : W.cell? ⟨g8, 1, none⟩ = some (.bool false) := blk_cell k8 1
    have y5 := blk_frozen k5
    have y6 := blk_frozen k6
    have y7 := blk_frozen k7
    have y8 := blk_frozen k8
    clear hV k5 k6 k7 k8 hv0 hv1 h1 h2 h3 h4
    have HB := hid (Below.setCell (Below.setCell HB.out (show w.heap.size ≤ (⟨g5, 0, none⟩ : Addr).block from q5) (.slice A0 (bytesOf p).length c0)) (show w.heap.size ≤ (⟨g5, 1, none⟩ : Addr).block from q5) (.slice A1 (bytesOf r).length c1))
    refine wpAnyH_ready (rs := [16]) (by kernel_rfl) (by simp) ?_
    refine AllReadyH.cons (o := { dst := none, op := Go.Op.store 56 (Go.Operand.tmp 5) (Go.Operand.tmp 39), type := 0, pos := "law.go:96", after := #[{ on := 12, ground := Go.Ground.data }, { on := 2, ground := Go.Ground.data }, { on := 11, ground := Go.Ground.chain }, { on := 0, ground := Go.Ground.phase }, { on := 1, ground := Go.Ground.phase }, { on := 2, ground := Go.Ground.phase }, { on := 3, ground := Go.Ground.textOnly Go.Departure.lateStores }, { on := 4, ground := Go.Ground.textOnly Go.Departure.lateStores }, { on := 5, ground := Go.Ground.textOnly Go.Departure.lateStoresUnsure }, { on := 6, ground := Go.Ground.textOnly Go.Departure.lateStores }, { on := 7, ground := Go.Ground.textOnly Go.Departure.lateStores }, { on := 8, ground := Go.Ground.textOnly Go.Departure.lateStoresUnsure }, { on := 9, ground := Go.Ground.textOnly Go.Departure.lateStores }, { on := 10, ground := Go.Ground.textOnly Go.Departure.lateStores }, { on := 11, ground := Go.Ground.textOnly Go.Departure.lateStoresUnsure }, { on := 12, ground := Go.Ground.phase }, { on := 13, ground := Go.Ground.phase }, { on := 14, ground := Go.Ground.phase }, { on := 15, ground := Go.Ground.phase }], guard := none }) rfl (fun K hK => ?_) AllReadyH.nil
    go_simp
    with_reducible refine hK.out _ _ (keepX HX.out HB.out) (fun _ => ?_)
    clear hK K
    have HB := hid (Below.setCell (Below.setCell (Below.setCell HB.out (show w.heap.size ≤ (⟨g6, 0, none⟩ : Addr).block from q6) (.bool lm)) (show w.heap.size ≤ (⟨g6, 1, none⟩ : Addr).block from q6) (.int .u32 la)) (show w.heap.size ≤ (⟨g6, 2, none⟩ : Addr).block from q6) (.int .u32 lb))
    refine wpAnyH_ready (rs := [17]) (by kernel_rfl) (by simp) ?_
    refine AllReadyH.cons (o := { dst := none, op := Go.Op.store 58 (Go.Operand.tmp 6) (Go.Operand.tmp 42), type := 0, pos := "law.go:96", after := #[{ on := 13, ground := Go.Ground.data }, { on := 5, ground := Go.Ground.data }, { on := 16, ground := Go.Ground.chain }, { on := 0, ground := Go.Ground.phase }, { on := 1, ground := Go.Ground.phase }, { on := 2, ground := Go.Ground.phase }, { on := 3, ground := Go.Ground.phase }, { on := 4, ground := Go.Ground.phase }, { on := 5, ground := Go.Ground.phase }, { on := 6, ground := Go.Ground.textOnly Go.Departure.lateStores }, { on := 7, ground := Go.Ground.textOnly Go.Departure.lateStores }, { on := 8, ground := Go.Ground.textOnly Go.Departure.lateStoresUnsure }, { on := 9, ground := Go.Ground.textOnly Go.Departure.lateStores }, { on := 10, ground := Go.Ground.textOnly Go.Departure.lateStores }, { on := 11, ground := Go.Ground.textOnly Go.Departure.lateStoresUnsure }, { on := 12, ground := Go.Ground.phase }, { on := 13, ground := Go.Ground.phase }, { on := 14, ground := Go.Ground.phase }, { on := 15, ground := Go.Ground.phase }, { on := 16, ground := Go.Ground.phase }], guard := none }) rfl (fun K hK => ?_) AllReadyH.nil
    go_simp
    with_reducible refine hK.out _ _ (keepX HX.out HB.out) (fun _ => ?_)
    clear hK K
    have HB := hid (Below.setCell (Below.setCell (Below.setCell (Below.setCell HB.out (show w.heap.size ≤ (⟨g7, 0, none⟩ : Addr).block from q7) (.int .u8 tv)) (show w.heap.size ≤ (⟨g7, 1, none⟩ : Addr).block from q7) (.bool tm)) (show w.heap.size ≤ (⟨g7, 2, none⟩ : Addr).block from q7) (.int .u32 ta)) (show w.heap.size ≤ (⟨g7, 3, none⟩ : Addr).block from q7) (.int .u32 tb))
    refine wpAnyH_ready (rs := [18]) (by kernel_rfl) (by simp) ?_
    refine AllReadyH.cons (o := { dst := none, op := Go.Op.store 62 (Go.Operand.tmp 7) (Go.Operand.tmp 45), type := 0, pos := "law.go:96", after := #[{ on := 14, ground := Go.Ground.data }, { on := 8, ground := Go.Ground.data }, { on := 17, ground := Go.Ground.chain }, { on := 0, ground := Go.Ground.phase }, { on := 1, ground := Go.Ground.phase }, { on := 2, ground := Go.Ground.phase }, { on := 3, ground := Go.Ground.phase }, { on := 4, ground := Go.Ground.phase }, { on := 5, ground := Go.Ground.phase }, { on := 6, ground := Go.Ground.phase }, { on := 7, ground := Go.Ground.phase }, { on := 8, ground := Go.Ground.phase }, { on := 9, ground := Go.Ground.textOnly Go.Departure.lateStores }, { on := 10, ground := Go.Ground.textOnly Go.Departure.lateStores }, { on := 11, ground := Go.Ground.textOnly Go.Departure.lateStoresUnsure }, { on := 12, ground := Go.Ground.phase }, { on := 13, ground := Go.Ground.phase }, { on := 14, ground := Go.Ground.phase }, { on := 15, ground := Go.Ground.phase }, { on := 16, ground := Go.Ground.phase }, { on := 17, ground := Go.Ground.phase }], guard := none }) rfl (fun K hK => ?_) AllReadyH.nil
    go_simp
    with_reducible refine hK.out _ _ (keepX HX.out HB.out) (fun _ => ?_)
    clear hK K
    have HB := hid (Below.setCell (Below.setCell HB.out (show w.heap.size ≤ (⟨g8, 0, none⟩ : Addr).block from q8) (.int .u8 gv)) (show w.heap.size ≤ (⟨g8, 1, none⟩ : Addr).block from q8) (.bool gm))
    refine wpAnyH_ready (rs := [19]) (by kernel_rfl) (by simp) ?_
    refine AllReadyH.cons (o := { dst := none, op := Go.Op.store 65 (Go.Operand.tmp 8) (Go.Operand.tmp 48), type := 0, pos := "law.go:96", after := #[{ on := 15, ground := Go.Ground.data }, { on := 11, ground := Go.Ground.data }, { on := 18, ground := Go.Ground.chain }, { on := 0, ground := Go.Ground.phase }, { on := 1, ground := Go.Ground.phase }, { on := 2, ground := Go.Ground.phase }, { on := 3, ground := Go.Ground.phase }, { on := 4, ground := Go.Ground.phase }, { on := 5, ground := Go.Ground.phase }, { on := 6, ground := Go.Ground.phase }, { on := 7, ground := Go.Ground.phase }, { on := 8, ground := Go.Ground.phase }, { on := 9, ground := Go.Ground.phase }, { on := 10, ground := Go.Ground.phase }, { on := 11, ground := Go.Ground.phase }, { on := 12, ground := Go.Ground.phase }, { on := 13, ground := Go.Ground.phase }, { on := 14, ground := Go.Ground.phase }, { on := 15, ground := Go.Ground.phase }, { on := 16, ground := Go.Ground.phase }, { on := 17, ground := Go.Ground.phase }, { on := 18, ground := Go.Ground.phase }], guard := none }) rfl (fun K hK => ?_) AllReadyH.nil
    go_simp
    with_reducible refine hK.out _ _ (keepX HX.out HB.out) (fun _ => ?_)
    clear hK K
    refine wpAnyH_done (by kernel_rfl) ?_ _
    refine NoPanic.normal ?_
    exact hq.out g5 g6 g7 g8 _ _ _ _ _ _ _ _ _ _ _ _ _ _ base W HV.out HF.out
end Go.Proofs.YtiohiiekaofkbaaDoor

/- The walk of WtypePuts: what it keeps. -/
namespace Go.Proofs.YtiohiiekaofkbaaDoor
set_option linter.unusedVariables false
set_option linter.unusedSimpArgs false
open Go.RowKit Go.Proofs.YtiohiiekaofkbaaDoor.PWtypePuts Go.Proofs.YtiohiiekaofkbaaDoorW.PrintWords

theorem own_below {w w' : World} {base : Nat} {v : Value} {l : List Int} (h : Own w base v l) (hb : Below w.heap.size w w') : Own w' base v l := pw_own_below h hb
theorem own_convE {W : World} {base : Nat} {v : Value} {l : List Int} {s : ByteArray} (h : Own W base v l) (e : strOfNums l = s) : (convert 70 9 v).run Tryd.prog W = .ok (.string s) W := by
  rw [← e]; exact own_conv h
theorem keepS {X Y g5 g6 g7 g8 : Nat} {vv : Int} {p r s u : ByteArray} {lm : Bool} {la lb : Int} {tv : Int} {tm : Bool} {ta tb : Int} {gv : Int} {gm : Bool} {A0 A1 : Option Addr} {c0 c1 : Nat} {wc W : World} (h : wc.cell? ⟨X, 0, none⟩ = some (.int .u8 vv) ∧ wc.cell? ⟨X, 1, none⟩ = some (.string p) ∧ wc.cell? ⟨X, 2, none⟩ = some (.string r) ∧ wc.cell? ⟨X, 3, none⟩ = some (.bool lm) ∧ wc.cell? ⟨X, 4, none⟩ = some (.int .u32 la) ∧ wc.cell? ⟨X, 5, none⟩ = some (.int .u32 lb) ∧ wc.cell? ⟨X, 6, none⟩ = some (.int .u8 tv) ∧ wc.cell? ⟨X, 7, none⟩ = some (.bool tm) ∧ wc.cell? ⟨X, 8, none⟩ = some (.int .u32 ta) ∧ wc.cell? ⟨X, 9, none⟩ = some (.int .u32 tb) ∧ wc.cell? ⟨X, 10, none⟩ = some (.int .u8 gv) ∧ wc.cell? ⟨X, 11, none⟩ = some (.bool gm) ∧ wc.cell? ⟨Y, 0, none⟩ = some (.string s) ∧ wc.cell? ⟨Y, 1, none⟩ = some (.string u) ∧ wc.cell? ⟨g5, 0, none⟩ = some (.slice A0 (bytesOf p).length c0) ∧ wc.cell? ⟨g5, 1, none⟩ = some (.slice A1 (bytesOf r).length c1) ∧ wc.cell? ⟨g6, 0, none⟩ = some (.bool lm) ∧ wc.cell? ⟨g6, 1, none⟩ = some (.int .u32 la) ∧ wc.cell? ⟨g6, 2, none⟩ = some (.int .u32 lb) ∧ wc.cell? ⟨g7, 0, none⟩ = some (.int .u8 tv) ∧ wc.cell? ⟨g7, 1, none⟩ = some (.bool tm) ∧ wc.cell? ⟨g7, 2, none⟩ = some (.int .u32 ta) ∧ wc.cell? ⟨g7, 3, none⟩ = some (.int .u32 tb) ∧ wc.cell? ⟨g8, 0, none⟩ = some (.int .u8 gv) ∧ wc.cell? ⟨g8, 1, none⟩ = some (.bool gm)) (hb : Below wc.heap.size wc W) : Below wc.heap.size wc W ∧ W.cell? ⟨X, 0, none⟩ = some (.int .u8 vv) ∧ W.cell? ⟨X, 1, none⟩ = some (.string p) ∧ W.cell? ⟨X, 2, none⟩ = some (.string r) ∧ W.cell? ⟨X, 3, none⟩ = some (.bool lm) ∧ W.cell? ⟨X, 4, none⟩ = some (.int .u32 la) ∧ W.cell? ⟨X, 5, none⟩ = some (.int .u32 lb) ∧ W.cell? ⟨X, 6, none⟩ = some (.int .u8 tv) ∧ W.cell? ⟨X, 7, none⟩ = some (.bool tm) ∧ W.cell? ⟨X, 8, none⟩ = some (.int .u32 ta) ∧ W.cell? ⟨X, 9, none⟩ = some (.int .u32 tb) ∧ W.cell? ⟨X, 10, none⟩ = some (.int .u8 gv) ∧ W.cell? ⟨X, 11, none⟩ = some (.bool gm) ∧ W.cell? ⟨Y, 0, none⟩ = some (.string s) ∧ W.cell? ⟨Y, 1, none⟩ = some (.string u) ∧ W.cell? ⟨g5, 0, none⟩ = some (.slice A0 (bytesOf p).length c0) ∧ W.cell? ⟨g5, 1, none⟩ = some (.slice A1 (bytesOf r).length c1) ∧ W.cell? ⟨g6, 0, none⟩ = some (.bool lm) ∧ W.cell? ⟨g6, 1, none⟩ = some (.int .u32 la) ∧ W.cell? ⟨g6, 2, none⟩ = some (.int .u32 lb) ∧ W.cell? ⟨g7, 0, none⟩ = some (.int .u8 tv) ∧ W.cell? ⟨g7, 1, none⟩ = some (.bool tm) ∧ W.cell? ⟨g7, 2, none⟩ = some (.int .u32 ta) ∧ W.cell? ⟨g7, 3, none⟩ = some (.int .u32 tb) ∧ W.cell? ⟨g8, 0, none⟩ = some (.int .u8 gv) ∧ W.cell? ⟨g8, 1, none⟩ = some (.bool gm) :=
  ⟨hb, still hb h.1, still hb h.2.1, still hb h.2.2.1, still hb h.2.2.2.1, still hb h.2.2.2.2.1, still hb h.2.2.2.2.2.1, still hb h.2.2.2.2.2.2.1, still hb h.2.2.2.2.2.2.2.1, still hb h.2.2.2.2.2.2.2.2.1, still hb h.2.2.2.2.2.2.2.2.2.1, still hb h.2.2.2.2.2.2.2.2.2.2.1, still hb h.2.2.2.2.2.2.2.2.2.2.2.1, still hb h.2.2.2.2.2.2.2.2.2.2.2.2.1, still hb h.2.2.2.2.2.2.2.2.2.2.2.2.2.1, still hb h.2.2.2.2.2.2.2.2.2.2.2.2.2.2.1, still hb h.2.2.2.2.2.2.2.2.2.2.2.2.2.2.2.1, still hb h.2.2.2.2.2.2.2.2.2.2.2.2.2.2.2.2.1, still hb h.2.2.2.2.2.2.2.2.2.2.2.2.2.2.2.2.2.1, still hb h.2.2.2.2.2.2.2.2.2.2.2.2.2.2.2.2.2.2.1, still hb h.2.2.2.2.2.2.2.2.2.2.2.2.2.2.2.2.2.2.2.1, still hb h.2.2.2.2.2.2.2.2.2.2.2.2.2.2.2.2.2.2.2.2.1, still hb h.2.2.2.2.2.2.2.2.2.2.2.2.2.2.2.2.2.2.2.2.2.1, still hb h.2.2.2.2.2.2.2.2.2.2.2.2.2.2.2.2.2.2.2.2.2.2.1, still hb h.2.2.2.2.2.2.2.2.2.2.2.2.2.2.2.2.2.2.2.2.2.2.2.1, still hb h.2.2.2.2.2.2.2.2.2.2.2.2.2.2.2.2.2.2.2.2.2.2.2.2⟩
theorem cell_setL {W : World} {B i C j : Nat} {v x : Value} (h : W.cell? ⟨B, i, none⟩ = some x) (hne : C ≠ B ∨ j ≠ i) : (W.setCell ⟨C, j, none⟩ v).cell? ⟨B, i, none⟩ = some x := by
  rcases hne with hne | hne
  · exact (World.cell?_setCell_far _ _ _ _ hne).trans h
  · have hne' : i ≠ j := fun e => hne e.symm
    go_simp
theorem cell_setS {W : World} {B i : Nat} {v x : Value} (h : W.cell? ⟨B, i, none⟩ = some x) : (W.setCell ⟨B, i, none⟩ v).cell? ⟨B, i, none⟩ = some v := World.cell?_setCell_same _ _ _ h
/-- the world behind the stores of the four variables -/
def W3 (W : World) (g5 g6 g7 g8 : Nat) (v0 v1 : Value) (lm : Bool) (la lb tv : Int) (tm : Bool) (ta tb gv : Int) (gm : Bool) : World :=
  (((((((((((W.setCell ⟨g5, 0, none⟩ v0).setCell ⟨g5, 1, none⟩ v1).setCell ⟨g6, 0, none⟩ (.bool lm)).setCell ⟨g6, 1, none⟩ (.int .u32 la)).setCell ⟨g6, 2, none⟩ (.int .u32 lb)).setCell ⟨g7, 0, none⟩ (.int .u8 tv)).setCell ⟨g7, 1, none⟩ (.bool tm)).setCell ⟨g7, 2, none⟩ (.int .u32 ta)).setCell ⟨g7, 3, none⟩ (.int .u32 tb)).setCell ⟨g8, 0, none⟩ (.int .u8 gv)).setCell ⟨g8, 1, none⟩ (.bool gm))
theorem kept_set {W W' : World} {S : Nat → Prop} {B i : Nat} (h : Kept W W' S) (hB : S B) (v : Value) : Kept W (W'.setCell ⟨B, i, none⟩ v) S :=
  ⟨by simpa using h.1, fun k hk hn => by rw [heap_setCell_other _ _ _ _ (show k ≠ B by rintro rfl; exact hn hB)]; exact h.2 k hk hn⟩
theorem after3 {w W : World} {p r : ByteArray} {v0 v1 : Value} {g5 g6 g7 g8 : Nat} (lm : Bool) (la lb tv : Int) (tm : Bool) (ta tb gv : Int) (gm : Bool)
    (hV : VS w true true true true (.pointer (some ⟨g5, 0, none⟩)) (.pointer (some ⟨g6, 0, none⟩)) (.pointer (some ⟨g7, 0, none⟩)) (.pointer (some ⟨g8, 0, none⟩)) W) (hF : FV p r [(true, .pointer (some ⟨g5, 0, none⟩)), (true, .pointer (some ⟨g6, 0, none⟩)), (true, .pointer (some ⟨g7, 0, none⟩)), (true, .pointer (some ⟨g8, 0, none⟩))] (.agg #[v0, v1]) W) :
    ∃ A0 c0 A1 c1 wc, W3 W g5 g6 g7 g8 v0 v1 lm la lb tv tm ta tb gv gm = wc ∧ (bytesOf p).length ≤ c0 ∧ (bytesOf r).length ≤ c1 ∧ CV wc A0 (bytesOf p) ∧ CV wc A1 (bytesOf r) ∧ Below w.heap.size w wc ∧ wc.cell? ⟨g5, 0, none⟩ = some (.slice A0 (bytesOf p).length c0) ∧ wc.cell? ⟨g5, 1, none⟩ = some (.slice A1 (bytesOf r).length c1) ∧ wc.cell? ⟨g6, 0, none⟩ = some (.bool lm) ∧ wc.cell? ⟨g6, 1, none⟩ = some (.int .u32 la) ∧ wc.cell? ⟨g6, 2, none⟩ = some (.int .u32 lb) ∧ wc.cell? ⟨g7, 0, none⟩ = some (.int .u8 tv) ∧ wc.cell? ⟨g7, 1, none⟩ = some (.bool tm) ∧ wc.cell? ⟨g7, 2, none⟩ = some (.int .u32 ta) ∧ wc.cell? ⟨g7, 3, none⟩ = some (.int .u32 tb) ∧ wc.cell? ⟨g8, 0, none⟩ = some (.int .u8 gv) ∧ wc.cell? ⟨g8, 1, none⟩ = some (.bool gm) := by
  obtain ⟨base, v0', v1', e, h0, h1⟩ := hF
  obtain ⟨rfl, rfl⟩ : v0 = v0' ∧ v1 = v1' := by injection e with e; simp at e; exact e
  obtain ⟨_, e5, q5, k5⟩ := hV.n1 rfl
  obtain ⟨_, e6, q6, k6⟩ := hV.n2 rfl
  obtain ⟨_, e7, q7, k7⟩ := hV.n3 rfl
  obtain ⟨_, e8, q8, k8⟩ := hV.n4 rfl
  simp only [Value.pointer.injEq, Option.some.injEq, Addr.mk.injEq, and_true] at e5 e6 e7 e8
  subst e5 e6 e7 e8
  have p56 : g5 ≠ g6 := fun e => hV.d12 rfl rfl (by rw [e])
  have p57 : g5 ≠ g7 := fun e => hV.d13 rfl rfl (by rw [e])
  have p58 : g5 ≠ g8 := fun e => hV.d14 rfl rfl (by rw [e])
  have p67 : g6 ≠ g7 := fun e => hV.d23 rfl rfl (by rw [e])
  have p68 : g6 ≠ g8 := fun e => hV.d24 rfl rfl (by rw [e])
  have p78 : g7 ≠ g8 := fun e => hV.d34 rfl rfl (by rw [e])
  have hK : Kept W (W3 W g5 g6 g7 g8 v0 v1 lm la lb tv tm ta tb gv gm) (fun k => k = g5 ∨ k = g6 ∨ k = g7 ∨ k = g8) := by
    unfold W3
    exact kept_set (kept_set (kept_set (kept_set (kept_set (kept_set (kept_set (kept_set (kept_set (kept_set (kept_set (Kept.refl W _) (by simp) _) (by simp) _) (by simp) _) (by simp) _) (by simp) _) (by simp) _) (by simp) _) (by simp) _) (by simp) _) (by simp) _) (by simp) _
  have hne : ∀ k, (∀ q ∈ [(true, Value.pointer (some ⟨g5, 0, none⟩)), (true, .pointer (some ⟨g6, 0, none⟩)), (true, .pointer (some ⟨g7, 0, none⟩)), (true, .pointer (some ⟨g8, 0, none⟩))], q.1 = true → q.2 ≠ .pointer (some ⟨k, 0, none⟩)) → ¬ (k = g5 ∨ k = g6 ∨ k = g7 ∨ k = g8) := by
    rintro k hk (rfl | rfl | rfl | rfl)
    · exact hk (true, .pointer (some ⟨k, 0, none⟩)) (by simp) rfl rfl
    · exact hk (true, .pointer (some ⟨k, 0, none⟩)) (by simp) rfl rfl
    · exact hk (true, .pointer (some ⟨k, 0, none⟩)) (by simp) rfl rfl
    · exact hk (true, .pointer (some ⟨k, 0, none⟩)) (by simp) rfl rfl
  obtain ⟨A0, c0, rfl, l0, C0⟩ := Kd.R_reads (Kd.R_kept h0 hK hne)
  obtain ⟨A1, c1, rfl, l1, C1⟩ := Kd.R_reads (Kd.R_kept h1 hK hne)
  refine ⟨A0, c0, A1, c1, _, rfl, l0, l1, C0, C1, ?_, ?_⟩
  · unfold W3
    exact ((((((((((hV.below.setCell (p := ⟨g5, 0, none⟩) q5 _).setCell (p := ⟨g5, 1, none⟩) q5 _).setCell (p := ⟨g6, 0, none⟩) q6 _).setCell (p := ⟨g6, 1, none⟩) q6 _).setCell (p := ⟨g6, 2, none⟩) q6 _).setCell (p := ⟨g7, 0, none⟩) q7 _).setCell (p := ⟨g7, 1, none⟩) q7 _).setCell (p := ⟨g7, 2, none⟩) q7 _).setCell (p := ⟨g7, 3, none⟩) q7 _).setCell (p := ⟨g8, 0, none⟩) q8 _).setCell (p := ⟨g8, 1, none⟩) q8 _
  · unfold W3
    refine ⟨?_, ?_, ?_, ?_, ?_, ?_, ?_, ?_, ?_, ?_, ?_⟩
    · exact (cell_setL (cell_setL (cell_setL (cell_setL (cell_setL (cell_setL (cell_setL (cell_setL (cell_setL (cell_setL (cell_setS (blk_cell k5 0)) (by first | exact .inr (by decide) | exact .inl (by assumption) | exact .inl (Ne.symm (by assumption)))) (by first | exact .inr (by decide) | exact .inl (by assumption) | exact .inl (Ne.symm (by assumption)))) (by first | exact .inr (by decide) | exact .inl (by assumption) | exact .inl (Ne.symm (by assumption)))) (by first | exact .inr (by decide) | exact .inl (by assumption) | exact .inl (Ne.symm (by assumption)))) (by first | exact .inr (by decide) | exact .inl (by assumption) | exact .inl (Ne.symm (by assumption)))) (by first | exact .inr (by decide) | exact .inl (by assumption) | exact .inl (Ne.symm (by assumption)))) (by first | exact .inr (by decide) | exact .inl (by assumption) | exact .inl (Ne.symm (by assumption)))) (by first | exact .inr (by decide) | exact .inl (by assumption) | exact .inl (Ne.symm (by assumption)))) (by first | exact .inr (by decide) | exact .inl (by assumption) | exact .inl (Ne.symm (by assumption)))) (by first | exact .inr (by decide) | exact .inl (by assumption) | exact .inl (Ne.symm (by assumption))))
    · exact (cell_setL (cell_setL (cell_setL (cell_setL (cell_setL (cell_setL (cell_setL (cell_setL (cell_setL (cell_setS (cell_setL (blk_cell k5 1) (by first | exact .inr (by decide) | exact .inl (by assumption) | exact .inl (Ne.symm (by assumption))))) (by first | exact .inr (by decide) | exact .inl (by assumption) | exact .inl (Ne.symm (by assumption)))) (by first | exact .inr (by decide) | exact .inl (by assumption) | exact .inl (Ne.symm (by assumption)))) (by first | exact .inr (by decide) | exact .inl (by assumption) | exact .inl (Ne.symm (by assumption)))) (by first | exact .inr (by decide) | exact .inl (by assumption) | exact .inl (Ne.symm (by assumption)))) (by first | exact .inr (by decide) | exact .inl (by assumption) | exact .inl (Ne.symm (by assumption)))) (by first | exact .inr (by decide) | exact .inl (by assumption) | exact .inl (Ne.symm (by assumption)))) (by first | exact .inr (by decide) | exact .inl (by assumption) | exact .inl (Ne.symm (by assumption)))) (by first | exact .inr (by decide) | exact .inl (by assumption) | exact .inl (Ne.symm (by assumption)))) (by first | exact .inr (by decide) | exact .inl (by assumption) | exact .inl (Ne.symm (by assumption))))
    · exact (cell_setL (cell_setL (cell_setL (cell_setL (cell_setL (cell_setL (cell_setL (cell_setL (cell_setS (cell_setL (cell_setL (blk_cell k6 0) (by first | exact .inr (by decide) | exact .inl (by assumption) | exact .inl (Ne.symm (by assumption)))) (by first | exact .inr (by decide) | exact .inl (by assumption) | exact .inl (Ne.symm (by assumption))))) (by first | exact .inr (by decide) | exact .inl (by assumption) | exact .inl (Ne.symm (by assumption)))) (by first | exact .inr (by decide) | exact .inl (by assumption) | exact .inl (Ne.symm (by assumption)))) (by first | exact .inr (by decide) | exact .inl (by assumption) | exact .inl (Ne.symm (by assumption)))) (by first | exact .inr (by decide) | exact .inl (by assumption) | exact .inl (Ne.symm (by assumption)))) (by first | exact .inr (by decide) | exact .inl (by assumption) | exact .inl (Ne.symm (by assumption)))) (by first | exact .inr (by decide) | exact .inl (by assumption) | exact .inl (Ne.symm (by assumption)))) (by first | exact .inr (by decide) | exact .inl (by assumption) | exact .inl (Ne.symm (by assumption)))) (by first | exact .inr (by decide) | exact .inl (by assumption) | exact .inl (Ne.symm (by assumption))))
    · exact (cell_setL (cell_setL (cell_setL (cell_setL (cell_setL (cell_setL (cell_setL (cell_setS (cell_setL (cell_setL (cell_setL (blk_cell k6 1) (by first | exact .inr (by decide) | exact .inl (by assumption) | exact .inl (Ne.symm (by assumption)))) (by first | exact .inr (by decide) | exact .inl (by assumption) | exact .inl (Ne.symm (by assumption)))) (by first | exact .inr (by decide) | exact .inl (by assumption) | exact .inl (Ne.symm (by assumption))))) (by first | exact .inr (by decide) | exact .inl (by assumption) | exact .inl (Ne.symm (by assumption)))) (by first | exact .inr (by decide) | exact .inl (by assumption) | exact .inl (Ne.symm (by assumption)))) (by first | exact .inr (by decide) | exact .inl (by assumption) | exact .inl (Ne.symm (by assumption)))) (by first | exact .inr (by decide) | exact .inl (by assumption) | exact .inl (Ne.symm (by assumption)))) (by first | exact .inr (by decide) | exact .inl (by assumption) | exact .inl (Ne.symm (by assumption)))) (by first | exact .inr (by decide) | exact .inl (by assumption) | exact .inl (Ne.symm (by assumption)))) (by first | exact .inr (by decide) | exact .inl (by assumption) | exact .inl (Ne.symm (by assumption))))
    · exact (cell_setL (cell_setL (cell_setL (cell_setL (cell_setL (cell_setL (cell_setS (cell_setL (cell_setL (cell_setL (cell_setL (blk_cell k6 2) (by first | exact .inr (by decide) | exact .inl (by assumption) | exact .inl (Ne.symm (by assumption)))) (by first | exact .inr (by decide) | exact .inl (by assumption) | exact .inl (Ne.symm (by assumption)))) (by first | exact .inr (by decide) | exact .inl (by assumption) | exact .inl (Ne.symm (by assumption)))) (by first | exact .inr (by decide) | exact .inl (by assumption) | exact .inl (Ne.symm (by assumption))))) (by first | exact .inr (by decide) | exact .inl (by assumption) | exact .inl (Ne.symm (by assumption)))) (by first | exact .inr (by decide) | exact .inl (by assumption) | exact .inl (Ne.symm (by assumption)))) (by first | exact .inr (by decide) | exact .inl (by assumption) | exact .inl (Ne.symm (by assumption)))) (by first | exact .inr (by decide) | exact .inl (by assumption) | exact .inl (Ne.symm (by assumption)))) (by first | exact .inr (by decide) | exact .inl (by assumption) | exact .inl (Ne.symm (by assumption)))) (by first | exact .inr (by decide) | exact .inl (by assumption) | exact .inl (Ne.symm (by assumption))))
    · exact (cell_setL (cell_setL (cell_setL (cell_setL (cell_setL (cell_setS (cell_setL (cell_setL (cell_setL (cell_setL (cell_setL (blk_cell k7 0) (by first | exact .inr (by decide) | exact .inl (by assumption) | exact .inl (Ne.symm (by assumption)))) (by first | exact .inr (by decide) | exact .inl (by assumption) | exact .inl (Ne.symm (by assumption)))) (by first | exact .inr (by decide) | exact .inl (by assumption) | exact .inl (Ne.symm (by assumption)))) (by first | exact .inr (by decide) | exact .inl (by assumption) | exact .inl (Ne.symm (by assumption)))) (by first | exact .inr (by decide) | exact .inl (by assumption) | exact .inl (Ne.symm (by assumption))))) (by first | exact .inr (by decide) | exact .inl (by assumption) | exact .inl (Ne.symm (by assumption)))) (by first | exact .inr (by decide) | exact .inl (by assumption) | exact .inl (Ne.symm (by assumption)))) (by first | exact .inr (by decide) | exact .inl (by assumption) | exact .inl (Ne.symm (by assumption)))) (by first | exact .inr (by decide) | exact .inl (by assumption) | exact .inl (Ne.symm (by assumption)))) (by first | exact .inr (by decide) | exact .inl (by assumption) | exact .inl (Ne.symm (by assumption))))
    · exact (cell_setL (cell_setL (cell_setL (cell_setL (cell_setS (cell_setL (cell_setL (cell_setL (cell_setL (cell_setL (cell_setL (blk_cell k7 1) (by first | exact .inr (by decide) | exact .inl (by assumption) | exact .inl (Ne.symm (by assumption)))) (by first | exact .inr (by decide) | exact .inl (by assumption) | exact .inl (Ne.symm (by assumption)))) (by first | exact .inr (by decide) | exact .inl (by assumption) | exact .inl (Ne.symm (by assumption)))) (by first | exact .inr (by decide) | exact .inl (by assumption) | exact .inl (Ne.symm (by assumption)))) (by first | exact .inr (by decide) | exact .inl (by assumption) | exact .inl (Ne.symm (by assumption)))) (by first | exact .inr (by decide) | exact .inl (by assumption) | exact .inl (Ne.symm (by assumption))))) (by first | exact .inr (by decide) | exact .inl (by assumption) | exact .inl (Ne.symm (by assumption)))) (by first | exact .inr (by decide) | exact .inl (by assumption) | exact .inl (Ne.symm (by assumption)))) (by first | exact .inr (by decide) | exact .inl (by assumption) | exact .inl (Ne.symm (by assumption)))) (by first | exact .inr (by decide) | exact .inl (by assumption) | exact .inl (Ne.symm (by assumption))))
    · exact (cell_setL (cell_setL (cell_setL (cell_setS (cell_setL (cell_setL (cell_setL (cell_setL (cell_setL (cell_setL (cell_setL (blk_cell k7 2) (by first | exact .inr (by decide) | exact .inl (by assumption) | exact .inl (Ne.symm (by assumption)))) (by first | exact .inr (by decide) | exact .inl (by assumption) | exact .inl (Ne.symm (by assumption)))) (by first | exact .inr (by decide) | exact .inl (by assumption) | exact .inl (Ne.symm (by assumption)))) (by first | exact .inr (by decide) | exact .inl (by assumption) | exact .inl (Ne.symm (by assumption)))) (by first | exact .inr (by decide) | exact .inl (by assumption) | exact .inl (Ne.symm (by assumption)))) (by first | exact .inr (by decide) | exact .inl (by assumption) | exact .inl (Ne.symm (by assumption)))) (by first | exact .inr (by decide) | exact .inl (by assumption) | exact .inl (Ne.symm (by assumption))))) (by first | exact .inr (by decide) | exact .inl (by assumption) | exact .inl (Ne.symm (by assumption)))) (by first | exact .inr (by decide) | exact .inl (by assumption) | exact .inl (Ne.symm (by assumption)))) (by first | exact .inr (by decide) | exact .inl (by assumption) | exact .inl (Ne.symm (by assumption))))
    · exact (cell_setL (cell_setL (cell_setS (cell_setL (cell_setL (cell_setL (cell_setL (cell_setL (cell_setL (cell_setL (cell_setL (blk_cell k7 3) (by first | exact .inr (by decide) | exact .inl (by assumption) | exact .inl (Ne.symm (by assumption)))) (by first | exact .inr (by decide) | exact .inl (by assumption) | exact .inl (Ne.symm (by assumption)))) (by first | exact .inr (by decide) | exact .inl (by assumption) | exact .inl (Ne.symm (by assumption)))) (by first | exact .inr (by decide) | exact .inl (by assumption) | exact .inl (Ne.symm (by assumption)))) (by first | exact .inr (by decide) | exact .inl (by assumption) | exact .inl (Ne.symm (by assumption)))) (by first | exact .inr (by decide) | exact .inl (by assumption) | exact .inl (Ne.symm (by assumption)))) (by first | exact .inr (by decide) | exact .inl (by assumption) | exact .inl (Ne.symm (by assumption)))) (by first | exact .inr (by decide) | exact .inl (by assumption) | exact .inl (Ne.symm (by assumption))))) (by first | exact .inr (by decide) | exact .inl (by assumption) | exact .inl (Ne.symm (by assumption)))) (by first | exact .inr (by decide) | exact .inl (by assumption) | exact .inl (Ne.symm (by assumption))))
    · exact (cell_setL (cell_setS (cell_setL (cell_setL (cell_setL (cell_setL (cell_setL (cell_setL (cell_setL (cell_setL (cell_setL (blk_cell k8 0) (by first | exact .inr (by decide) | exact .inl (by assumption) | exact .inl (Ne.symm (by assumption)))) (by first | exact .inr (by decide) | exact .inl (by assumption) | exact .inl (Ne.symm (by assumption)))) (by first | exact .inr (by decide) | exact .inl (by assumption) | exact .inl (Ne.symm (by assumption)))) (by first | exact .inr (by decide) | exact .inl (by assumption) | exact .inl (Ne.symm (by assumption)))) (by first | exact .inr (by decide) | exact .inl (by assumption) | exact .inl (Ne.symm (by assumption)))) (by first | exact .inr (by decide) | exact .inl (by assumption) | exact .inl (Ne.symm (by assumption)))) (by first | exact .inr (by decide) | exact .inl (by assumption) | exact .inl (Ne.symm (by assumption)))) (by first | exact .inr (by decide) | exact .inl (by assumption) | exact .inl (Ne.symm (by assumption)))) (by first | exact .inr (by decide) | exact .inl (by assumption) | exact .inl (Ne.symm (by assumption))))) (by first | exact .inr (by decide) | exact .inl (by assumption) | exact .inl (Ne.symm (by assumption))))
    · exact (cell_setS (cell_setL (cell_setL (cell_setL (cell_setL (cell_setL (cell_setL (cell_setL (cell_setL (cell_setL (cell_setL (blk_cell k8 1) (by first | exact .inr (by decide) | exact .inl (by assumption) | exact .inl (Ne.symm (by assumption)))) (by first | exact .inr (by decide) | exact .inl (by assumption) | exact .inl (Ne.symm (by assumption)))) (by first | exact .inr (by decide) | exact .inl (by assumption) | exact .inl (Ne.symm (by assumption)))) (by first | exact .inr (by decide) | exact .inl (by assumption) | exact .inl (Ne.symm (by assumption)))) (by first | exact .inr (by decide) | exact .inl (by assumption) | exact .inl (Ne.symm (by assumption)))) (by first | exact .inr (by decide) | exact .inl (by assumption) | exact .inl (Ne.symm (by assumption)))) (by first | exact .inr (by decide) | exact .inl (by assumption) | exact .inl (Ne.symm (by assumption)))) (by first | exact .inr (by decide) | exact .inl (by assumption) | exact .inl (Ne.symm (by assumption)))) (by first | exact .inr (by decide) | exact .inl (by assumption) | exact .inl (Ne.symm (by assumption)))) (by first | exact .inr (by decide) | exact .inl (by assumption) | exact .inl (Ne.symm (by assumption)))))
/-- the bytes of a function's type behind a byte -/
theorem fput_ahead (A B : Option Addr) (c d : Nat) (l m : List Int) (w0 w : World) (h : Nat) (h0 : CV w0 A l) (hc0 : l.length ≤ c) (h1 : CV w0 B m) (hc1 : m.length ≤ d) (hl : l.length ≤ 1000) (hm : m.length ≤ 1000) (hB : Below w0.heap.size w0 w) (ho : Own w w0.heap.size (.slice (some ⟨h, 0, none⟩) 1 1) [9]) :
    Calls Tryd.prog 32 #[.agg #[.slice A l.length c, .slice B m.length d], .slice (some ⟨h, 0, none⟩) 1 1] w fun e w' => ∃ v', e = .returned v' ∧ Hid (Own w' w0.heap.size v' ([9] ++ funcB l m)) ∧ Below w0.heap.size w0 w' := by
  have hh := World.ownsRow.lt ho
  refine fput_walk A B c d l m (fun k => k = h) _ [9] w (Kd.C_kept_came (Kd.heap_int .u8) h0 hB (fun k hk => ?_)) hc0 (Kd.C_kept_came (Kd.heap_int .u8) h1 hB (fun k hk => ?_)) hc1 hl hm (by simp) w0 hB (Kd.R_of_own (h1 := fun _ => rfl) ho (fun k hk => ?_))
  · subst hk; exact (hh k rfl).1
  · subst hk; exact (hh k rfl).1
  · injection hk with hk; exact hk.symm
theorem own_nine (w w0 : World) (hb : w0.heap.size ≤ w.heap.size) : Own (w.alloc (.cells #[.int .u8 9] 5)) w0.heap.size (.slice (some ⟨w.heap.size, 0, none⟩) 1 1) [9] :=
  World.ownsRow_lit w #[.int .u8 9] 1 hb (by decide) rfl
end Go.Proofs.YtiohiiekaofkbaaDoor
