/- What the reference puts of a number (this seat's numbers of functions and types). -/
import Derived.Test.YtiohiiekaofkbaaDoorB0
import Derived.Laws.AppendOwnNone
import Derived.Deep.AppendLies
namespace Go.Proofs.YtiohiiekaofkbaaDoor
set_option linter.unusedVariables false
set_option linter.unusedSimpArgs false
open Go.RowKit



/-- the bytes of a number without a sign -/
def uL (x : Int) : List Int := if h : x < 128 then [x] else (x % 128 + 128) :: uL (x / 128)
termination_by x.toNat
decreasing_by omega
theorem uL_small {x : Int} (h : x < 128) : uL x = [x] := by rw [uL, dif_pos h]
theorem uL_big {x : Int} (h : 128 ≤ x) : uL x = (x % 128 + 128) :: uL (x / 128) := by rw [uL, dif_neg (by omega)]
theorem uL_pos (x : Int) : 1 ≤ (uL x).length := by
  by_cases h : x < 128
  · rw [uL_small h]; simp
  · rw [uL_big (by omega)]; simp
def PutPost (w : World) (base : Nat) (l : List Int) (e : Ending) (w' : World) : Prop := ∃ v, e = .returned v ∧ Own w' base v l ∧ Below base w w' ∧ base ≤ w'.heap.size
/-- the bytes of a number without a sign, in some more than it needs -/
def rU (x m : Int) : List Int := if h : x ≤ 127 ∧ m ≤ 0 then [x % 256] else (x % 128 + 128) :: rU (x / 128) (if x ≤ 127 then m - 1 else m)
termination_by x.toNat + m.toNat
decreasing_by split <;> omega
theorem rU_small {x m : Int} (h : x ≤ 127 ∧ m ≤ 0) : rU x m = [x % 256] := by rw [rU, dif_pos h]
theorem rU_big {x m : Int} (h : ¬ (x ≤ 127 ∧ m ≤ 0)) : rU x m = (x % 128 + 128) :: rU (x / 128) (if x ≤ 127 then m - 1 else m) := by rw [rU, dif_neg h]
theorem rU_pos (x m : Int) : 1 ≤ (rU x m).length := by
  by_cases h : x ≤ 127 ∧ m ≤ 0
  · rw [rU_small h]; simp
  · rw [rU_big h]; simp


/-- a slice of bytes that is only read: nil, or cells below block B -/
def Src (w : World) (B : Nat) (A : Option Addr) (c : Nat) (l : List Int) : Prop :=
  (A = none ∧ c = 0 ∧ l = []) ∨ ∃ ad, A = some ad ∧ (l ≠ [] → ad.block < B) ∧ ∀ j u, (bv l)[j]? = some u → w.cell? (ad.add j) = some u
theorem Src.keep {w w' : World} {B : Nat} {A : Option Addr} {c : Nat} {l : List Int} (h : Src w B A c l) (hk : ∀ p : Addr, p.block < B → w'.cell? p = w.cell? p) : Src w' B A c l := by
  rcases h with h | ⟨ad, e, hb, hc⟩
  · exact .inl h
  · refine .inr ⟨ad, e, hb, fun j u hu => (hk _ ?_).trans (hc j u hu)⟩
    have hb' := hb (by rintro rfl; simp [bv] at hu)
    unfold Addr.add; split <;> exact hb'
theorem Src.below {w w' : World} {B B' : Nat} {A : Option Addr} {c : Nat} {l : List Int} (h : Src w B A c l) (hb : Below B' w w') (hB : B ≤ B') : Src w' B A c l := h.keep fun p hp => hb.cell (by omega)
theorem wpList_append_src {P : Program} {w : World} {ops : Array Oper} {rest : List Oper} {o : Oper} {a : Act} {Q : Exit → Act → World → Prop} (hgd : o.guard = none) (s x : Operand) (t : TypeId)
    (ho : o.op = .call { callee := .builtin .append, args := #[s, x], argTypes := #[t, t] })
    (base : Nat) (e : TypeId) (i : TypeInfo) (z : Value) (ht : P.underlying t = some (.slice e)) (hi : P.info? e = some i) (hz : i.zero = some z)
    (hsize : i.size = 1) (hby : i.bytes = 1) (hzs : z.cells.size = 1)
    (v : Value) (n : Nat) (xs : List Value) (hs : a.eval s = v) (hown : w.ownsRow base e 1 v n xs)
    (B : Nat) (A : Option Addr) (c : Nat) (l : List Int) (hx : a.eval x = .slice A l.length c) (hsrc : Src w B A c l)
    (hlen : n + l.length ≤ 1000000000) (hbase : base ≤ w.heap.size)
    (h : ∀ v' w', w'.ownsRow base e 1 v' (n + l.length) (xs ++ bv l) → w.grownBy w' v.ownBlock → wpList P ops Q rest (a.put o.dst v') w') : wpList P ops Q (o :: rest) a w := by
  rcases hsrc with ⟨rfl, rfl, rfl⟩ | ⟨ad, rfl, _, hc⟩
  · refine wpList_append_own_none hgd s x t ho base e i 1 ht hi v n xs hs hown (by simpa using hx) ?_
    exact h v w (by simpa [bv] using hown) (World.grownBy.refl w _)
  · refine wpList_append_own w hgd s x t ho base e i z 1 1 ht hi hz hsize hby hzs (by decide) v n xs hs hown ad l.length c (bv l) hx (by simp [bv]) hc ?_ ?_ ?_ hbase (fun v' w' h1 h2 _ => h v' w' h1 h2)
    · intro u hu; simp only [bv, List.mem_map] at hu; obtain ⟨y, _, rfl⟩ := hu; rfl
    · unfold maxLen; omega
    · omega
set_option maxHeartbeats 1000000 in
set_option maxRecDepth 100000 in
theorem refPutU (w : World) (A : Option Addr) (c : Nat) (l : List Int) (V m : Int) (h0 : 0 ≤ V) (h1 : V ≤ 18446744073709551615) (hm0 : 0 ≤ m) (hm1 : m ≤ 1000) (hsrc : Src w w.heap.size A c l) (hlen : l.length + (rU V m).length ≤ 1000000000) :
    Calls Tryd.prog 120 #[.slice A l.length c, .int .u64 V, .int .i64 m] w (PutPost w w.heap.size (l ++ rU V m)) := by
  obtain ⟨i0, hi0, hz0, hz1, hz2⟩ := info_parts info5
  have HS := hid hsrc
  have HL := hid hlen
  have hl2 : l.length ≤ 1000000000 := by omega
  clear hsrc hlen
  have HE0 : Hid ((w.alloc (.cells #[] 5)).ownsRow w.heap.size 5 1 (.slice (some ⟨w.heap.size, 0, none⟩) 0 0) 0 []) := World.ownsRow_lit w #[] 0 (Nat.le_refl _) (by decide) rfl
  go_enter Tryd.func120, Tryd.ntmps120
  go_wp2_with (first | (at_builtin; refine wpList_append_src rfl _ _ 70 rfl w.heap.size 5 i0 (.int .u8 0) Tryd.underlying70 hi0 hz0 hz1 hz2 rfl _ 0 [] rfl HE0.out w.heap.size A c l rfl (HS.out.keep (fun p hp => World.cell?_of_block (w := w) (Below.heap_alloc _ _ _ hp))) (by omega) (by simp) ?_))
  intro v1 w1 hown1 hgrow
  obtain ⟨k1, k2, k3⟩ : Own w1 w.heap.size v1 (l ++ []) ∧ Below w.heap.size w w1 ∧ w.heap.size ≤ w1.heap.size := by
    refine ⟨?_, ?_, ?_⟩
    · unfold Own; simpa [bv] using hown1
    · exact ((Below.refl _ _).alloc (Nat.le_refl _) _).grown hgrow (by simp) (fun k hk => (World.ownsRow.lt HE0.out _ hk).1)
    · have := hgrow.size; simp at this; omega
  have K1 := hid k1
  have K2 := hid k2
  clear k1 k2 hown1 hgrow
  go_wp2
  go_loopw [1, 2, 7] (fun v1 v2 v7 wr => ∃ (x y : Int) (d : List Int), v1 = .int .u64 x ∧ v2 = .int .i64 y ∧ 0 ≤ x ∧ x ≤ 18446744073709551615 ∧ 0 ≤ y ∧ y ≤ 1000 ∧ Hid (Own wr w.heap.size v7 (l ++ d)) ∧ Hid (rU V m = d ++ rU x y) ∧ w.heap.size ≤ wr.heap.size ∧ Hid (Below w.heap.size w wr)) (fun v1 v2 _ _ => (intOf v1).toNat + (intOf v2).toNat)
  case atStart => exact ⟨V, m, [], rfl, rfl, h0, h1, hm0, hm1, K1, rfl, k3, K2⟩
  case round =>
    obtain ⟨x, y, d, rfl, rfl, hx0, hx1, hy0, hy1, HO, HE, hsz, HB⟩ := hrel
    have hdl : l.length + d.length + (rU x y).length ≤ 1000000000 := by
      have q1 := HL.out; rw [HE.out] at q1; simp at q1; omega
    have hp := rU_pos x y
    by_cases hx : x ≤ 127
    · by_cases hy : y ≤ 0
      · have hxm : x % 256 = x := by omega
        go_wp2_with (first | (at_builtin; refine wpList_append_own _ rfl _ _ 70 rfl w.heap.size 5 i0 (.int .u8 0) 1 1 Tryd.underlying70 hi0 hz0 hz1 hz2 rfl (by decide) _ _ _ rfl (HO.out.alloc _) ⟨wr.heap.size, 0, none⟩ 1 1 [.int .u8 x] rfl rfl ?_ ?_ ?_ ?_ ?_ ?_))
        (all_goals try (first | (exact one_new _ _ _) | (intro u hu; simp at hu; subst hu; rfl) | rfl | (unfold maxLen; first | omega | (simp; omega)) | omega | (simp; omega)))
        intro v1 w1 hown1 hgrow _
        obtain ⟨k1, k2, k3⟩ := Own.step HB.out hsz HO.out hown1 (by simp) hgrow
        have K1 := hid k1
        have K2 := hid k2
        have HX := hid hxm
        clear k1 k2 hown1 hgrow hxm
        go_wp2
        go_ret
        exact ⟨v1, rfl, by rw [HE.out, rU_small ⟨hx, hy⟩, HX.out, ← List.append_assoc]; exact K1.out, K2.out, k3⟩
      · go_wp2_with (first | (at_builtin; refine wpList_append_own _ rfl _ _ 70 rfl w.heap.size 5 i0 (.int .u8 0) 1 1 Tryd.underlying70 hi0 hz0 hz1 hz2 rfl (by decide) _ _ _ rfl (HO.out.alloc _) ⟨wr.heap.size, 0, none⟩ 1 1 [.int .u8 (x % 128 + 128)] rfl rfl ?_ ?_ ?_ ?_ ?_ ?_))
        (all_goals try (first | (exact one_new _ _ _) | (intro u hu; simp at hu; subst hu; rfl) | rfl | (unfold maxLen; first | omega | (simp; omega)) | omega | (simp; omega)))
        intro v1 w1 hown1 hgrow _
        obtain ⟨k1, k2, k3⟩ := Own.step HB.out hsz HO.out hown1 (by simp) hgrow
        have K1 := hid k1
        have K2 := hid k2
        clear k1 k2 hown1 hgrow
        go_wp2
        go_roundw
        case rel => exact ⟨x / 128, y - 1, d ++ [x % 128 + 128], by go_num, by go_num, by omega, by omega, by omega, by omega, hid (by rw [← List.append_assoc]; exact K1.out), hid (by rw [HE.out, rU_big (by omega), if_pos hx]; simp), k3, K2⟩
        case measure => simp [intOf]; omega
    · go_wp2_with (first | (at_builtin; refine wpList_append_own _ rfl _ _ 70 rfl w.heap.size 5 i0 (.int .u8 0) 1 1 Tryd.underlying70 hi0 hz0 hz1 hz2 rfl (by decide) _ _ _ rfl (HO.out.alloc _) ⟨wr.heap.size, 0, none⟩ 1 1 [.int .u8 (x % 128 + 128)] rfl rfl ?_ ?_ ?_ ?_ ?_ ?_))
      (all_goals try (first | (exact one_new _ _ _) | (intro u hu; simp at hu; subst hu; rfl) | rfl | (unfold maxLen; first | omega | (simp; omega)) | omega | (simp; omega)))
      intro v1 w1 hown1 hgrow _
      obtain ⟨k1, k2, k3⟩ := Own.step HB.out hsz HO.out hown1 (by simp) hgrow
      have K1 := hid k1
      have K2 := hid k2
      clear k1 k2 hown1 hgrow
      go_wp2
      go_roundw
      case rel => exact ⟨x / 128, y, d ++ [x % 128 + 128], by go_num, by go_num, by omega, by omega, by omega, by omega, hid (by rw [← List.append_assoc]; exact K1.out), hid (by rw [HE.out, rU_big (by omega), if_neg (show ¬ x ≤ 127 by omega)]; simp), k3, K2⟩
      case measure => simp [intOf]; omega


theorem own_nil (w : World) (base : Nat) : Own w base (.slice none 0 0) [] := World.ownsRow_nil _ _ _ _
theorem Own.form {w : World} {base : Nat} {v : Value} {l : List Int} (h : Own w base v l) (hn : 0 < l.length) : ∃ g cap, v = .slice (some ⟨g, 0, none⟩) l.length cap ∧ base ≤ g ∧ g < w.heap.size := World.ownsRow.form h hn
/-- a number of 64 bits has at most ten digits by sevens -/
theorem uL_len (k : Nat) : ∀ x : Int, 0 ≤ x → x < 128 ^ (k + 1) → (uL x).length ≤ k + 1 := by
  induction k with
  | zero => intro x h0 h1; rw [uL_small (by omega)]; simp
  | succ k ih =>
    intro x h0 h1
    by_cases h : x < 128
    · rw [uL_small h]; simp
    · rw [uL_big (by omega)]
      have := ih (x / 128) (by omega) (by rw [Int.pow_succ] at h1; omega)
      simp; omega
theorem uL_len10 {x : Int} (h0 : 0 ≤ x) (h1 : x ≤ 18446744073709551615) : (uL x).length ≤ 10 := uL_len 9 x h0 (by omega)


/-- a number by sevens, the lowest first -/
def val : List Int → Int
  | [] => 0
  | x :: t => x % 128 + 128 * val t
theorem val_app (l : List Int) (x : Int) : val (l ++ [x]) = val l + (x % 128) * 128 ^ l.length := by
  induction l with
  | nil => simp [val]
  | cons a l ih => simp only [List.cons_append, val, ih, List.length_cons, Int.pow_succ, Int.mul_add]; rw [Int.add_assoc, Int.mul_left_comm, Int.mul_comm 128 (128 ^ _)]
theorem val_lt (l : List Int) : 0 ≤ val l ∧ val l < 128 ^ l.length := by
  induction l with
  | nil => simp [val]
  | cons a l ih => simp only [val, List.length_cons, Int.pow_succ]; omega
/-- digits by sevens: the last below 128, the others not -/
def Digits (L D : List Int) (x : Int) : Prop := L = D ++ [x] ∧ (∀ z ∈ D, 128 ≤ z ∧ z < 256) ∧ 0 ≤ x ∧ x < 128
theorem rU_digits (x m : Int) (h0 : 0 ≤ x) (hm : 0 ≤ m) : ∃ D y, Digits (rU x m) D y ∧ val (rU x m) = x ∧ (rU x m).length = (uL x).length + m.toNat := by
  by_cases h : x ≤ 127 ∧ m ≤ 0
  · rw [rU_small h, uL_small (by omega)]
    exact ⟨[], x % 256, ⟨rfl, by simp, by omega, by omega⟩, by simp [val]; omega, by simp; omega⟩
  · obtain ⟨D, y, ⟨e, q1, q2, q3⟩, q4, q5⟩ := rU_digits (x / 128) (if x ≤ 127 then m - 1 else m) (by omega) (by split <;> omega)
    refine ⟨(x % 128 + 128) :: D, y, ⟨by rw [rU_big h, e]; rfl, ?_, q2, q3⟩, ?_, ?_⟩
    · intro z hz
      rcases List.mem_cons.1 hz with rfl | hz
      · omega
      · exact q1 z hz
    · rw [rU_big h, val, q4]; omega
    · rw [rU_big h, List.length_cons, q5]
      by_cases hx : x ≤ 127
      · rw [uL_small (show x < 128 by omega), uL_small (show x / 128 < 128 by omega), if_pos hx]; simp; omega
      · rw [uL_big (show 128 ≤ x by omega), if_neg hx]; simp; omega
termination_by x.toNat + m.toNat
decreasing_by split <;> omega
theorem rU_zero (x : Int) (h0 : 0 ≤ x) : rU x 0 = uL x := by
  by_cases h : x < 128
  · rw [rU_small (by omega), uL_small h]; congr 1; omega
  · rw [rU_big (by omega), uL_big (by omega), if_neg (by omega), rU_zero (x / 128) (by omega)]
termination_by x.toNat
decreasing_by omega

end Go.Proofs.YtiohiiekaofkbaaDoor
