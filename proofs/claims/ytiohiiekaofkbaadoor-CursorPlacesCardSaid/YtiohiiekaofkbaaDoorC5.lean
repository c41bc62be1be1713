/- Wants of wtype: all numbers; counts of items. -/
import Derived.Test.YtiohiiekaofkbaaDoorC2
import Derived.Test.YtiohiiekaofkbaaDoorS4
namespace Go.Proofs.YtiohiiekaofkbaaDoor
set_option linter.unusedVariables false
set_option linter.unusedSimpArgs false
open Go.RowKit

theorem Rd.cell {g : Nat} {w W : World} (h : Rd g w W) {B i : Nat} {v : Value} (hne : B ≠ g) (hc : w.cell? ⟨B, i, none⟩ = some v) : W.cell? ⟨B, i, none⟩ = some v :=
  (World.cell?_of_block (w := w) (h.block B (cell_lt hc) (fun e => hne (Option.some.inj e)))).trans hc
/-- all numbers, where the rest fits -/
def rgI (a b r : Int) : List (Int × Int) := if chB a b r then [(0, 4294967295)] else []
set_option maxHeartbeats 1000000 in
theorem index1_walk (B : Nat) (a b r : Int) (W : World) (h0 : W.cell? ⟨B, 0, none⟩ = some (.int .i64 a)) (h1 : W.cell? ⟨B, 1, none⟩ = some (.int .i64 b)) :
    Calls Tryd.prog 163 #[.int .i64 r, .pointer (some ⟨B, 0, none⟩)] W (fun e w' => ∃ A c, e = .returned (.slice A (rgI a b r).length c) ∧ RowR w' A (rgI a b r) ∧ Below W.heap.size W w') := by
  rcases hc : chB a b r with _ | _
  · have e : rgI a b r = [] := by rw [rgI, hc]; rfl
    have HC := hid hc
    have HE := hid e
    clear hc e
    go_enter Tryd.func163, Tryd.ntmps163
    go_wp2_with (first | (go_at_call 96; refine (whas_any a b r _).mono ?_; rintro e w1 ⟨he, hb1⟩; rw [HC.out] at he; subst he))
    go_ret
    exact ⟨none, 0, by rw [HE.out]; rfl, .inl HE.out, hb1⟩
  · have e : rgI a b r = [(0, 4294967295)] := by rw [rgI, hc]; rfl
    have HC := hid hc
    have HE := hid e
    clear hc e
    go_enter Tryd.func163, Tryd.ntmps163
    go_wp2_with (first | (go_at_call 96; refine (whas_any a b r _).mono ?_; rintro e w1 ⟨he, hb1⟩; rw [HC.out] at he; subst he; (first | have hq1 := hz1 | have hq1 := True.intro); (first | have hq0 := hz0 | have hq0 := True.intro); obtain ⟨hcc, hff⟩ := bcell hb1; have hz1 := hb1.size; (try simp at hz1); (try have hy1 := Nat.lt_of_lt_of_le hq1 hz1); (try have hy0 := Nat.lt_of_lt_of_le hq0 hz1); (try replace hz1 := Nat.lt_of_succ_le hz1); (try have hz0 := Nat.lt_of_succ_lt hz1)))
    go_ret
    refine ⟨some ⟨w1.heap.size, 0, none⟩, 1, by rw [HE.out]; rfl, .inr ⟨_, rfl, ?_, ?_⟩, ?_⟩
    · simp
    · rw [HE.out]; intro i hi
      have : i = 0 := by simp at hi; omega
      subst this
      exact ⟨by go_simp, by go_simp, by simp, by simp, by simp, by simp⟩
    · exact (by repeat (first | exact Below.refl _ _ | assumption | refine Below.alloc ?_ (by first | exact Nat.le_refl _ | (simp; done) | (simp; omega) | omega) _ | refine Below.drew ?_ | refine Below.setCell ?_ (by first | exact Nat.le_refl _ | (simp; done) | (simp; omega) | omega) _ | refine below_call ?_ (by assumption) (by first | exact Nat.le_refl _ | (simp; done) | (simp; omega) | omega)))
theorem index_wants {g B : Nat} {a b : Int} {w : World} (hne : B ≠ g) (h0 : w.cell? ⟨B, 0, none⟩ = some (.int .i64 a)) (h1 : w.cell? ⟨B, 1, none⟩ = some (.int .i64 b)) :
    Wants g 163 #[.pointer (some ⟨B, 0, none⟩)] w (rgI a b) :=
  ⟨enters Tryd.func163 (by kernel_rfl) rfl, fun r => by unfold rgI; split <;> simp, fun r r0 r1 W hW => index1_walk B a b r W (hW.cell hne h0) (hW.cell hne h1)⟩

/-- counts of items -/
def rgL (a b c d r : Int) : List (Int × Int) := [(cnL a b c d r, cnH a b c d r)]
theorem wi_bd (lo hi : Int) : 0 ≤ wiL lo hi ∧ wiL lo hi ≤ 18446744073709551615 ∧ 0 ≤ wiH lo hi ∧ wiH lo hi ≤ 18446744073709551615 := by
  unfold wiL wiH; split <;> (try split) <;> omega
theorem cn_bd (a b c d r : Int) : 0 ≤ cnL a b c d r ∧ cnL a b c d r ≤ 18446744073709551615 ∧ 0 ≤ cnH a b c d r ∧ cnH a b c d r ≤ 18446744073709551615 := by
  unfold cnL cnH
  split
  · decide
  · exact wi_bd _ _
/-- span.none as it was laid -/
structure Glob (w : World) : Prop where
  size : 5 < w.heap.size
  c0 : w.cell? ⟨5, 0, none⟩ = some (.int .u64 1)
  c1 : w.cell? ⟨5, 1, none⟩ = some (.int .u64 0)
theorem Glob.of {w W : World} (h : Glob w) (hb : Below w.heap.size w W) : Glob W := ⟨Nat.lt_of_lt_of_le h.size hb.size, still hb h.c0, still hb h.c1⟩
theorem Glob.rd {g : Nat} {w W : World} (h : Glob w) (hne : 5 ≠ g) (hg : Rd g w W) : Glob W := ⟨Nat.lt_of_lt_of_le h.size hg.size, hg.cell hne h.c0, hg.cell hne h.c1⟩
theorem counts_glob (a b c d r : Int) (w : World) (ha : 1 ≤ a) (ha2 : a ≤ 1099511627776) (hb : 1 ≤ b) (hb2 : b ≤ 9223372036854775807) (hc : 0 ≤ c) (hc2 : c ≤ 1099511627776) (hd : 0 ≤ d) (hd2 : d ≤ 9223372036854775807) (hr : 0 ≤ r) (hr2 : r ≤ 1099511627776) (hG : Glob w) :
    Calls Tryd.prog 149 #[.agg #[.int .i64 a, .int .i64 b], .agg #[.int .i64 c, .int .i64 d], .int .i64 r] w fun e w' => e = .returned (.agg #[.int .u64 (cnL a b c d r), .int .u64 (cnH a b c d r)]) ∧ Below w.heap.size w w' :=
  counts_any a b c d r w ha ha2 hb hb2 hc hc2 hd hd2 hr hr2 hG.size hG.c0 hG.c1
set_option maxHeartbeats 1000000 in
theorem list1_walk (B C : Nat) (a b c d r : Int) (W : World) (ha : 1 ≤ a) (ha2 : a ≤ 1099511627776) (hb : 1 ≤ b) (hb2 : b ≤ 9223372036854775807) (hc : 0 ≤ c) (hc2 : c ≤ 1099511627776) (hd : 0 ≤ d) (hd2 : d ≤ 9223372036854775807) (hr : 0 ≤ r) (hr2 : r ≤ 1099511627776) (hG : Glob W)
    (h0 : W.cell? ⟨B, 0, none⟩ = some (.int .i64 a)) (h1 : W.cell? ⟨B, 1, none⟩ = some (.int .i64 b)) (k0 : W.cell? ⟨C, 0, none⟩ = some (.int .i64 c)) (k1 : W.cell? ⟨C, 1, none⟩ = some (.int .i64 d)) :
    Calls Tryd.prog 164 #[.int .i64 r, .pointer (some ⟨B, 0, none⟩), .pointer (some ⟨C, 0, none⟩)] W (fun e w' => ∃ A k, e = .returned (.slice A (rgL a b c d r).length k) ∧ RowR w' A (rgL a b c d r) ∧ Below W.heap.size W w') := by
  have HK := hid (fun w' => counts_glob a b c d r w' ha ha2 hb hb2 hc hc2 hd hd2 hr hr2)
  have HG := hid hG
  have HB := hid (cn_bd a b c d r)
  clear hG
  go_enter Tryd.func164, Tryd.ntmps164
  go_wp2_with (first | (go_at_call 149; refine (HK.out _ HG.out).mono ?_; rintro e w1 ⟨rfl, hb1⟩; (first | have hq1 := hz1 | have hq1 := True.intro); (first | have hq0 := hz0 | have hq0 := True.intro); obtain ⟨hcc, hff⟩ := bcell hb1; have hz1 := hb1.size; (try simp at hz1); (try have hy1 := Nat.lt_of_lt_of_le hq1 hz1); (try have hy0 := Nat.lt_of_lt_of_le hq0 hz1); (try replace hz1 := Nat.lt_of_succ_le hz1); (try have hz0 := Nat.lt_of_succ_lt hz1)))
  go_ret
  refine ⟨some ⟨w1.heap.size, 0, none⟩, 1, rfl, .inr ⟨_, rfl, ?_, ?_⟩, ?_⟩
  · simp
  · intro i hi
    have : i = 0 := by simp [rgL] at hi; omega
    subst this
    exact ⟨by simp only [rgL]; go_simp, by simp only [rgL]; go_simp, HB.out⟩
  · exact (by repeat (first | exact Below.refl _ _ | assumption | refine Below.alloc ?_ (by first | exact Nat.le_refl _ | (simp; done) | (simp; omega) | omega) _ | refine Below.drew ?_ | refine Below.setCell ?_ (by first | exact Nat.le_refl _ | (simp; done) | (simp; omega) | omega) _ | refine below_call ?_ (by assumption) (by first | exact Nat.le_refl _ | (simp; done) | (simp; omega) | omega)))
theorem list_wants {g B C : Nat} {a b c d : Int} {w : World} (hgl : 5 ≠ g) (hne : B ≠ g) (hne2 : C ≠ g) (ha : 1 ≤ a) (ha2 : a ≤ 1099511627776) (hb : 1 ≤ b) (hb2 : b ≤ 9223372036854775807) (hc : 0 ≤ c) (hc2 : c ≤ 1099511627776) (hd : 0 ≤ d) (hd2 : d ≤ 9223372036854775807) (hG : Glob w)
    (h0 : w.cell? ⟨B, 0, none⟩ = some (.int .i64 a)) (h1 : w.cell? ⟨B, 1, none⟩ = some (.int .i64 b)) (k0 : w.cell? ⟨C, 0, none⟩ = some (.int .i64 c)) (k1 : w.cell? ⟨C, 1, none⟩ = some (.int .i64 d)) :
    Wants g 164 #[.pointer (some ⟨B, 0, none⟩), .pointer (some ⟨C, 0, none⟩)] w (rgL a b c d) :=
  ⟨enters Tryd.func164 (by kernel_rfl) rfl, fun r => by simp [rgL], fun r r0 r1 W hW => list1_walk B C a b c d r W ha ha2 hb hb2 hc hc2 hd hd2 r0 r1 (hG.rd hgl hW) (hW.cell hne h0) (hW.cell hne h1) (hW.cell hne2 k0) (hW.cell hne2 k1)⟩
end Go.Proofs.YtiohiiekaofkbaaDoor
