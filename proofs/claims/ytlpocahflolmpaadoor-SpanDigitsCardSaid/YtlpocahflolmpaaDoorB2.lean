/- Contracts of Makes, Parts, Counts, Sizes. -/
import Derived.Test.YtlpocahflolmpaaDoorB1
import Derived.Deep.DeepCutAuto
namespace Go.Proofs.YtlpocahflolmpaaDoor
open Go.RowKit

def makesB (a b c d r n : Int) : Bool := hasB (tmMin a n + c) (andMax (tmMax b n) d) r && (decide (r < 1099511627776) || decide (1099511627776 ≤ andMax (tmMax b n) d))

theorem capM_bd {n a : Int} (hn : 0 ≤ n) (ha : 0 ≤ a) : 0 ≤ capM n a ∧ capM n a ≤ 1099511627776 := by
  have := Int.mul_nonneg hn ha
  unfold capM; omega
theorem tmMin_bd {a n : Int} (ha : 0 ≤ a) : 0 ≤ tmMin a n ∧ tmMin a n ≤ 1099511627776 := by
  unfold tmMin; split
  · omega
  · exact capM_bd (by omega) ha
theorem tmMax_bd {a n : Int} (ha : 0 ≤ a) : 0 ≤ tmMax a n ∧ tmMax a n ≤ 1099511627776 := by
  unfold tmMax; split
  · omega
  · split
    · omega
    · exact capM_bd (by omega) ha

theorem keepS {w : World} {g1 g2 g3 g4 : Addr} {a b c d : Value} {n : Nat} {W W' : World} (h : W.cell? g1 = some a ∧ W.cell? g2 = some b ∧ W.cell? g3 = some c ∧ W.cell? g4 = some d ∧ Below w.heap.size w W ∧ n < W.heap.size)
    (hb : Below W.heap.size W W') (h1 : g1.block ≤ n) (h2 : g2.block ≤ n) (h3 : g3.block ≤ n) (h4 : g4.block ≤ n) (hn : w.heap.size ≤ n) :
    W'.cell? g1 = some a ∧ W'.cell? g2 = some b ∧ W'.cell? g3 = some c ∧ W'.cell? g4 = some d ∧ Below w.heap.size w W' ∧ n < W'.heap.size := by
  obtain ⟨e1, e2, e3, e4, e5, e6⟩ := h
  exact ⟨(hb.cell (by omega)).trans e1, (hb.cell (by omega)).trans e2, (hb.cell (by omega)).trans e3, (hb.cell (by omega)).trans e4, e5.trans (hb.mono (by omega)), Nat.lt_of_lt_of_le e6 hb.size⟩

theorem keepA {w : World} {g1 g2 g3 g4 : Addr} {a b c d : Value} {n : Nat} {W : World} {o1 o2 : Obj} (h : (W.alloc o1).cell? g1 = some a ∧ (W.alloc o1).cell? g2 = some b ∧ (W.alloc o1).cell? g3 = some c ∧ (W.alloc o1).cell? g4 = some d ∧ Below w.heap.size w (W.alloc o1) ∧ n < (W.alloc o1).heap.size)
    (hs : n < W.heap.size) (h1 : g1.block ≤ n) (h2 : g2.block ≤ n) (h3 : g3.block ≤ n) (h4 : g4.block ≤ n) (hn : w.heap.size ≤ n) :
    (W.alloc o2).cell? g1 = some a ∧ (W.alloc o2).cell? g2 = some b ∧ (W.alloc o2).cell? g3 = some c ∧ (W.alloc o2).cell? g4 = some d ∧ Below w.heap.size w (W.alloc o2) ∧ n < (W.alloc o2).heap.size := by
  have hb : Below W.heap.size (W.alloc o1) (W.alloc o2) := ⟨rfl, rfl, rfl, by simp, fun k hk => by rw [Below.heap_alloc _ _ _ hk, Below.heap_alloc _ _ _ hk]⟩
  obtain ⟨e1, e2, e3, e4, e5, e6⟩ := h
  exact ⟨(hb.cell (by omega)).trans e1, (hb.cell (by omega)).trans e2, (hb.cell (by omega)).trans e3, (hb.cell (by omega)).trans e4, e5.trans (hb.mono (by omega)), by simp; omega⟩

theorem keepC {w : World} {g1 g2 g3 g4 : Addr} {a b c d : Value} {n : Nat} {W : World} {p q : Addr} {u v : Value} (h : W.cell? g1 = some a ∧ W.cell? g2 = some b ∧ W.cell? g3 = some c ∧ W.cell? g4 = some d ∧ Below w.heap.size w W ∧ n < W.heap.size)
    (hp : n < p.block) (hq : n < q.block) (h1 : g1.block ≤ n) (h2 : g2.block ≤ n) (h3 : g3.block ≤ n) (h4 : g4.block ≤ n) (hn : w.heap.size ≤ n) :
    ((W.setCell p u).setCell q v).cell? g1 = some a ∧ ((W.setCell p u).setCell q v).cell? g2 = some b ∧ ((W.setCell p u).setCell q v).cell? g3 = some c ∧ ((W.setCell p u).setCell q v).cell? g4 = some d ∧ Below w.heap.size w ((W.setCell p u).setCell q v) ∧ n < ((W.setCell p u).setCell q v).heap.size := by
  have hb : Below (n + 1) W ((W.setCell p u).setCell q v) := ((Below.refl _ _).setCell (by omega) _).setCell (by omega) _
  obtain ⟨e1, e2, e3, e4, e5, e6⟩ := h
  exact ⟨(hb.cell (by omega)).trans e1, (hb.cell (by omega)).trans e2, (hb.cell (by omega)).trans e3, (hb.cell (by omega)).trans e4, e5.trans (hb.mono (by omega)), Nat.lt_of_lt_of_le e6 hb.size⟩

set_option maxHeartbeats 1000000 in
theorem makes_any (a b c d r n : Int) (w : World) (ha : 0 ≤ a) (ha2 : a ≤ 4000000000000000000) (hb : 0 ≤ b) (hb2 : b ≤ 9223372036854775807) (hc : 0 ≤ c) (hc2 : c ≤ 4000000000000000000) (hd : 0 ≤ d) (hn : n ≤ 9223372036854775807) :
    Calls Tryd.prog 13 #[.agg #[.int .i64 a, .int .i64 b], .agg #[.int .i64 c, .int .i64 d], .int .i64 r, .int .i64 n] w fun e w' => e = .returned (.bool (makesB a b c d r n)) ∧ Below w.heap.size w w' := by
  have t1 := tmMin_bd (a := a) (n := n) ha
  have t2 := tmMax_bd (a := b) (n := n) hb
  obtain ⟨t11, t12⟩ := t1
  obtain ⟨t21, t22⟩ := t2
  go_enter Tryd.func13, Tryd.ntmps13
  go_upto_region 1 with (fail)
  go_cut [9] (fun s9 wx => ∃ g : Nat, s9 = .pointer (some ⟨g, 0, none⟩) ∧ wx.cell? ⟨g, 0, none⟩ = some (.int .i64 (tmMin a n + c)) ∧ wx.cell? ⟨g, 1, none⟩ = some (.int .i64 (andMax (tmMax b n) d)) ∧ Below w.heap.size w wx)
  case first =>
    go_region_held3 (fun w' => w'.cell? ⟨w.heap.size, 0, none⟩ = some (.int .i64 a) ∧ w'.cell? ⟨w.heap.size, 1, none⟩ = some (.int .i64 b) ∧ w'.cell? ⟨w.heap.size + 1, 0, none⟩ = some (.int .i64 c) ∧ w'.cell? ⟨w.heap.size + 1, 1, none⟩ = some (.int .i64 d) ∧ Below w.heap.size w w' ∧ w.heap.size + 1 < w'.heap.size)
      (first
        | (go_keep; done)
        | exact keepS (by assumption) (by assumption) (by simp) (by simp) (by simp) (by simp) (by simp)
        | exact keepS (by assumption) (Below.alloc (Below.refl _ _) (Nat.le_refl _) _) (by simp) (by simp) (by simp) (by simp) (by simp)
        | exact keepA (by assumption) (by have q1 := hb1.size; have q2 := hb2.size; simp at q1 q2; omega) (by simp) (by simp) (by simp) (by simp) (by simp)
        | exact keepC (by assumption) (by have q1 := hb1.size; simp at q1 ⊢; omega) (by have q1 := hb1.size; simp at q1 ⊢; omega) (by simp) (by simp) (by simp) (by simp) (by simp)
        | exact keepC (by assumption) (by simp) (by simp) (by simp) (by simp) (by simp) (by simp) (by simp)
        | ((try dsimp only); refine ⟨?_, ?_, ?_, ?_, ?_, ?_⟩ <;> first | (go_keep; done) | exact (by repeat (first | exact Below.refl _ _ | assumption | refine Below.alloc ?_ (by first | exact Nat.le_refl _ | (simp; done) | (simp; omega) | omega) _ | refine Below.drew ?_ | refine Below.setCell ?_ (by first | exact Nat.le_refl _ | (simp; done) | (simp; omega) | omega) _ | refine below_call ?_ (by assumption) (by first | exact Nat.le_refl _ | (simp; done) | (simp; omega) | omega)))))
      (first
        | (go_at_call 26; refine (rtms_any _ _ _ _ (by omega) (by omega) (by omega) (by omega) (by omega)).mono ?_; rintro e w' ⟨rfl, hb1⟩; obtain ⟨hc1, hf1⟩ := bcell hb1; have hz1 := hb1.size; simp at hz1; replace hz1 := Nat.lt_of_succ_le hz1)
        | (go_at_call 24; refine (rand_any _ _ _ _ _ (by omega) (by omega) (by omega) (by omega) (by omega) (by omega)).mono ?_; rintro e w' ⟨rfl, hb2⟩; obtain ⟨hc2, hf2⟩ := bcell hb2))
    all_goals (go_wp2_with fail)
    all_goals (go_meet)
    all_goals (refine ⟨_, rfl, ?_, ?_, (‹_ ∧ _ ∧ _ ∧ _ ∧ _ ∧ _›).2.2.2.2.1⟩ <;> first | (simp [World.cell?_alloc_new]; done) | (refine (set2 (x := .int .i64 0) (y := .int .i64 0) ?_ ?_).1 <;> first | (simp [*, World.cell?_alloc_new]; done) | (go_simp; done)) | (refine (set2 (x := .int .i64 0) (y := .int .i64 0) ?_ ?_).2 <;> first | (simp [*, World.cell?_alloc_new]; done) | (go_simp; done)))

  case rest =>
    obtain ⟨g, rfl, h0, h1, h2⟩ := hcut
    have hg := cell_lt h0
    have hs := h2.size
    go_wp2
    all_goals
      go_ret
      exact ⟨ret_bool (by rw [Bool.eq_iff_iff]; simp [makesB, hasB]; omega), (by repeat (first | exact Below.refl _ _ | assumption | refine Below.alloc ?_ (by first | exact Nat.le_refl _ | (simp; done) | (simp; omega) | omega) _ | refine Below.drew ?_ | refine Below.setCell ?_ (by first | exact Nat.le_refl _ | (simp; done) | (simp; omega) | omega) _ | refine below_call ?_ (by assumption) (by first | exact Nat.le_refl _ | (simp; done) | (simp; omega) | omega)))⟩

def partsB (a b c d r v : Int) : Bool := hasB a b v && (decide (1099511627776 ≤ r) || decide (v ≤ r)) && (if 1099511627776 ≤ r then decide (1099511627776 ≤ d) else hasB c d (r - v))

set_option maxHeartbeats 1000000 in
theorem parts_any (a b c d r v : Int) (w : World) (hr : 0 ≤ r) (hr2 : r ≤ 4000000000000000000) (hv : 0 ≤ v) (hv2 : v ≤ 4000000000000000000) :
    Calls Tryd.prog 20 #[.agg #[.int .i64 a, .int .i64 b], .agg #[.int .i64 c, .int .i64 d], .int .i64 r, .int .i64 v] w fun e w' => e = .returned (.bool (partsB a b c d r v)) ∧ Below w.heap.size w w' := by
  go_enter Tryd.func20, Tryd.ntmps20
  go_wp2_with (first | (go_at_call 22; refine (rhas_any _ _ _ _).mono ?_; rintro e w' ⟨rfl, hb1⟩; obtain ⟨hc1, hf1⟩ := bcell hb1; have hz1 := hb1.size; (try simp at hz1); (try replace hz1 := Nat.lt_of_succ_le hz1)))
  go_ways
  all_goals
    go_ret
    exact ⟨ret_bool (by rw [Bool.eq_iff_iff]; simp [partsB, *]; try omega), (by repeat (first | exact Below.refl _ _ | assumption | refine Below.alloc ?_ (by first | exact Nat.le_refl _ | (simp; done) | (simp; omega) | omega) _ | refine Below.drew ?_ | refine Below.setCell ?_ (by first | exact Nat.le_refl _ | (simp; done) | (simp; omega) | omega) _ | refine below_call ?_ (by assumption) (by first | exact Nat.le_refl _ | (simp; done) | (simp; omega) | omega)))⟩

end Go.Proofs.YtlpocahflolmpaaDoor
