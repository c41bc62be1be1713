/- The walk of the statement SpanAdds. -/
import Derived.Test.YtlpocahflolmpaaDoorB6
namespace Go.Proofs.YtlpocahflolmpaaDoor
set_option linter.unusedVariables false
set_option linter.unusedSimpArgs false
open Go.RowKit

theorem two_boxes {w : World} {v0 v1 v2 v3 : Value} {T U : Nat} {W' : World} (hb : Below (w.heap.size + 2) ((w.alloc (.cells #[v0, v1] T)).alloc (.cells #[v2, v3] U)) W') :
    W'.cell? ⟨w.heap.size, 0, none⟩ = some v0 ∧ W'.cell? ⟨w.heap.size, 1, none⟩ = some v1 ∧ W'.cell? ⟨w.heap.size + 1, 0, none⟩ = some v2 ∧ W'.cell? ⟨w.heap.size + 1, 1, none⟩ = some v3 ∧ Below w.heap.size w W' ∧ w.heap.size + 1 < W'.heap.size := by
  have h0 : Below w.heap.size w ((w.alloc (.cells #[v0, v1] T)).alloc (.cells #[v2, v3] U)) := (by repeat (first | exact Below.refl _ _ | assumption | refine Below.alloc ?_ (by first | exact Nat.le_refl _ | (simp; done) | (simp; omega) | omega) _ | refine Below.drew ?_ | refine Below.setCell ?_ (by first | exact Nat.le_refl _ | (simp; done) | (simp; omega) | omega) _ | refine below_call ?_ (by assumption) (by first | exact Nat.le_refl _ | (simp; done) | (simp; omega) | omega)))
  have hs := hb.size
  simp at hs
  refine ⟨?_, ?_, ?_, ?_, h0.trans (hb.mono (by omega)), by omega⟩
  · rw [hb.cell (by simp)]; go_simp
  · rw [hb.cell (by simp)]; go_simp
  · rw [hb.cell (by simp)]; go_simp
  · rw [hb.cell (by simp)]; go_simp

theorem set2far {W : World} {h : Nat} {u v : Value} {p : Addr} (hne : p.block ≠ h) : ((W.setCell ⟨h, 0, none⟩ u).setCell ⟨h, 1, none⟩ v).cell? p = W.cell? p := by
  refine World.cell?_of_block (w := W) ?_
  rw [Below.heap_setCell _ _ _ _ hne, Below.heap_setCell _ _ _ _ hne]

theorem still {w W : World} (hb : Below w.heap.size w W) {g o : Nat} {v : Value} (h : w.cell? ⟨g, o, none⟩ = some v) : W.cell? ⟨g, o, none⟩ = some v := (hb.cell (p := ⟨g, o, none⟩) (cell_lt h)).trans h
structure Glob (w : World) : Prop where
  size : 0 < w.heap.size
  c0 : w.cell? ⟨0, 0, none⟩ = some (.int .u64 1)
  c1 : w.cell? ⟨0, 1, none⟩ = some (.int .u64 0)
theorem Glob.of {w W : World} (h : Glob w) (hb : Below w.heap.size w W) : Glob W := ⟨Nat.lt_of_lt_of_le h.size hb.size, still hb h.c0, still hb h.c1⟩
theorem awake_glob (w : World) (h : Glob w) : Calls Tryd.prog 14 #[] w fun e w' => e = .returned (.bool true) ∧ Below w.heap.size w w' := awake_any w h.size h.c0 h.c1
def HoldS (wc : World) (W : World) : Prop := Below wc.heap.size wc W
theorem keep8 {w W : World} {p1 p2 p3 p4 p5 p6 p7 p8 : Nat × Nat} {v1 v2 v3 v4 v5 v6 v7 v8 : Value} (h1 : w.cell? ⟨p1.1, p1.2, none⟩ = some v1) (h2 : w.cell? ⟨p2.1, p2.2, none⟩ = some v2) (h3 : w.cell? ⟨p3.1, p3.2, none⟩ = some v3) (h4 : w.cell? ⟨p4.1, p4.2, none⟩ = some v4)
    (h5 : w.cell? ⟨p5.1, p5.2, none⟩ = some v5) (h6 : w.cell? ⟨p6.1, p6.2, none⟩ = some v6) (h7 : w.cell? ⟨p7.1, p7.2, none⟩ = some v7) (h8 : w.cell? ⟨p8.1, p8.2, none⟩ = some v8) (hb : Below w.heap.size w W) :
    W.cell? ⟨p1.1, p1.2, none⟩ = some v1 ∧ W.cell? ⟨p2.1, p2.2, none⟩ = some v2 ∧ W.cell? ⟨p3.1, p3.2, none⟩ = some v3 ∧ W.cell? ⟨p4.1, p4.2, none⟩ = some v4 ∧ W.cell? ⟨p5.1, p5.2, none⟩ = some v5 ∧ W.cell? ⟨p6.1, p6.2, none⟩ = some v6 ∧ W.cell? ⟨p7.1, p7.2, none⟩ = some v7 ∧ W.cell? ⟨p8.1, p8.2, none⟩ = some v8 ∧ HoldS w W :=
  ⟨still hb h1, still hb h2, still hb h3, still hb h4, still hb h5, still hb h6, still hb h7, still hb h8, hb⟩

set_option maxHeartbeats 4000000 in
theorem adds_yes (a b c d n : Int) (w : World) (hn0 : -9223372036854775808 ≤ n) (hn : n ≤ 9223372036854775807) (ha1 : rightB a b = true) (hc1 : rightB c d = true) (hb2 : b ≤ 9223372036854775807) (hd2 : d ≤ 9223372036854775807)
    (hw : 0 < w.heap.size) (g0 : w.cell? ⟨0, 0, none⟩ = some (.int .u64 1)) (g1 : w.cell? ⟨0, 1, none⟩ = some (.int .u64 0)) :
    Calls Tryd.prog 7 #[.agg #[.int .i64 a, .int .i64 b], .agg #[.int .i64 c, .int .i64 d], .int .i64 n] w fun e w' => e = .returned (.bool true) ∧ Below w.heap.size w w' := by
  obtain ⟨ra1, ra2, ra3⟩ : 0 ≤ a ∧ a ≤ b ∧ a ≤ 274877906944 := by simp only [rightB, decide_eq_true_eq] at ha1; omega
  obtain ⟨rc1, rc2, rc3⟩ : 0 ≤ c ∧ c ≤ d ∧ c ≤ 274877906944 := by simp only [rightB, decide_eq_true_eq] at hc1; omega
  go_enter Tryd.func7, Tryd.ntmps7
  go_upto_region 3 with (first | (go_at_call 9; refine (right_any _ _ _).mono ?_; rintro e w' ⟨rfl, hb1⟩; (first | have hq1 := hz1 | have hq1 := True.intro); (first | have hq0 := hz0 | have hq0 := True.intro); obtain ⟨hcc, hff⟩ := bcell hb1; have hz1 := hb1.size; (try simp at hz1); (try have hy1 := Nat.lt_of_lt_of_le hq1 hz1); (try have hy0 := Nat.lt_of_lt_of_le hq0 hz1); (try replace hz1 := Nat.lt_of_succ_le hz1); (try have hz0 := Nat.lt_of_succ_lt hz1)))
  go_cut [7, 8] (fun s7 s8 wx => ∃ g h : Nat, s7 = .pointer (some ⟨g, 0, none⟩) ∧ s8 = .pointer (some ⟨h, 0, none⟩) ∧ wx.cell? ⟨g, 0, none⟩ = some (.int .i64 a) ∧ wx.cell? ⟨g, 1, none⟩ = some (.int .i64 b) ∧ wx.cell? ⟨h, 0, none⟩ = some (.int .i64 c) ∧ wx.cell? ⟨h, 1, none⟩ = some (.int .i64 d) ∧ Below (w.heap.size + 2) ((w.alloc (.cells #[.int .i64 a, .int .i64 b] 23)).alloc (.cells #[.int .i64 c, .int .i64 d] 23)) wx)
  case first =>
    go_region_held3 (fun w' => w'.cell? ⟨w.heap.size, 0, none⟩ = some (.int .i64 a) ∧ w'.cell? ⟨w.heap.size, 1, none⟩ = some (.int .i64 b) ∧ w'.cell? ⟨w.heap.size + 1, 0, none⟩ = some (.int .i64 c) ∧ w'.cell? ⟨w.heap.size + 1, 1, none⟩ = some (.int .i64 d) ∧ Below w.heap.size w w' ∧ w.heap.size + 1 < w'.heap.size)
      (exact two_boxes (T := 23) (U := 23) (by repeat (first | exact Below.refl _ _ | assumption | refine Below.alloc ?_ (by first | exact Nat.le_refl _ | (simp; done) | (simp; omega) | omega) _ | refine Below.drew ?_ | refine Below.setCell ?_ (by first | exact Nat.le_refl _ | (simp; done) | (simp; omega) | omega) _ | refine below_call ?_ (by assumption) (by first | exact Nat.le_refl _ | (simp; done) | (simp; omega) | omega))))
      (first
        | (go_at_call 11; refine (own_any _ _ _).mono ?_; rintro e w' ⟨rfl, hb1⟩; (first | have hq1 := hz1 | have hq1 := True.intro); (first | have hq0 := hz0 | have hq0 := True.intro); obtain ⟨hcc, hff⟩ := bcell hb1; have hz1 := hb1.size; (try simp at hz1); (try have hy1 := Nat.lt_of_lt_of_le hq1 hz1); (try have hy0 := Nat.lt_of_lt_of_le hq0 hz1); (try replace hz1 := Nat.lt_of_succ_le hz1); (try have hz0 := Nat.lt_of_succ_lt hz1)))
    all_goals (go_wp2_with fail)
    all_goals (go_meet)
    all_goals (refine ⟨_, _, rfl, rfl, ?_, ?_, ?_, ?_, (by repeat (first | exact Below.refl _ _ | assumption | refine Below.alloc ?_ (by first | exact Nat.le_refl _ | (simp; done) | (simp; omega) | omega) _ | refine Below.drew ?_ | refine Below.setCell ?_ (by first | exact Nat.le_refl _ | (simp; done) | (simp; omega) | omega) _ | refine below_call ?_ (by assumption) (by first | exact Nat.le_refl _ | (simp; done) | (simp; omega) | omega)))⟩ <;> first | (go_simp; done) | (rw [set2far (by first | (simp; done) | (simp; omega) | omega)]; first | (refine (set2 (x := .int .i64 0) (y := .int .i64 0) ?_ ?_).1 <;> (go_simp; done)) | (refine (set2 (x := .int .i64 0) (y := .int .i64 0) ?_ ?_).2 <;> (go_simp; done))) | (refine (set2 (x := .int .i64 0) (y := .int .i64 0) ?_ ?_).1 <;> (rw [set2far (by first | (simp; done) | (simp; omega) | omega)]; go_simp; done)) | (refine (set2 (x := .int .i64 0) (y := .int .i64 0) ?_ ?_).2 <;> (rw [set2far (by first | (simp; done) | (simp; omega) | omega)]; go_simp; done)) | trace_state)
  case rest =>
    obtain ⟨g, h, rfl, rfl, h1, h2, h3, h4, h5⟩ := hcut
    obtain ⟨k1, k2, k3, k4, k5, k6⟩ := two_boxes h5
    have GL := hid ((⟨hw, g0, g1⟩ : Glob w).of k5)
    clear h5 hw g0 g1
    have HB5 := hid k5
    clear k5
    go_wp2_with fail
    have KK := hid (fun W hb => keep8 (W := W) (p1 := (g, 0)) (p2 := (g, 1)) (p3 := (h, 0)) (p4 := (h, 1)) (p5 := (w.heap.size, 0)) (p6 := (w.heap.size, 1)) (p7 := (w.heap.size + 1, 0)) (p8 := (w.heap.size + 1, 1)) h1 h2 h3 h4 k1 k2 k3 k4 hb)
    go_region_held3 (fun w' => w'.cell? ⟨g, 0, none⟩ = some (.int .i64 a) ∧ w'.cell? ⟨g, 1, none⟩ = some (.int .i64 b) ∧ w'.cell? ⟨h, 0, none⟩ = some (.int .i64 c) ∧ w'.cell? ⟨h, 1, none⟩ = some (.int .i64 d) ∧ w'.cell? ⟨w.heap.size, 0, none⟩ = some (.int .i64 a) ∧ w'.cell? ⟨w.heap.size, 1, none⟩ = some (.int .i64 b) ∧ w'.cell? ⟨w.heap.size + 1, 0, none⟩ = some (.int .i64 c) ∧ w'.cell? ⟨w.heap.size + 1, 1, none⟩ = some (.int .i64 d) ∧ HoldS wc w')
      (first
        | exact KK.out _ (Below.refl _ _).drew
        | exact KK.out _ (below_call (‹_ ∧ _ ∧ _ ∧ _ ∧ _ ∧ _ ∧ _ ∧ _ ∧ _›).2.2.2.2.2.2.2.2 (by assumption) (Below.size (‹_ ∧ _ ∧ _ ∧ _ ∧ _ ∧ _ ∧ _ ∧ _ ∧ _›).2.2.2.2.2.2.2.2)))
      (first
        | (go_at_call 21; refine (has_any _ _ _ _).mono ?_; rintro e w' ⟨rfl, hb1⟩)
        | (go_at_call 22; refine (rhas_any _ _ _ _).mono ?_; rintro e w' ⟨rfl, hb1⟩)
        | (go_at_call 23; refine (and_any _ _ _ _ _ (by omega) (by omega) (by omega) (by omega) (by omega) (by omega)).mono ?_; rintro e w' ⟨rfl, hb1⟩)
        | (go_at_call 24; refine (rand_any _ _ _ _ _ (by omega) (by omega) (by omega) (by omega) (by omega) (by omega)).mono ?_; rintro e w' ⟨rfl, hb1⟩)
        | (go_at_call 25; refine (tms_any _ _ _ _ (by omega) (by omega) (by omega) (by omega) (by omega)).mono ?_; rintro e w' ⟨rfl, hb1⟩)
        | (go_at_call 26; refine (rtms_any _ _ _ _ (by omega) (by omega) (by omega) (by omega) (by omega)).mono ?_; rintro e w' ⟨rfl, hb1⟩)
        | (go_at_call 11; refine (own_any _ _ _).mono ?_; rintro e w' ⟨rfl, hb1⟩)
        | (go_at_call 14; refine (awake_glob _ (GL.out.of (‹_ ∧ _ ∧ _ ∧ _ ∧ _ ∧ _ ∧ _ ∧ _ ∧ _›).2.2.2.2.2.2.2.2)).mono ?_; rintro e w' ⟨rfl, hb1⟩))
    go_wp2
    go_ret
    exact ⟨by first | rfl | (simp; done), HB5.out.trans (Below.mono (‹_ ∧ _ ∧ _ ∧ _ ∧ _ ∧ _ ∧ _ ∧ _ ∧ _›).2.2.2.2.2.2.2.2 HB5.out.size)⟩

set_option maxHeartbeats 1000000 in
theorem adds_no (a b c d n : Int) (w : World) (h : ¬ (rightB a b = true ∧ rightB c d = true)) :
    Calls Tryd.prog 7 #[.agg #[.int .i64 a, .int .i64 b], .agg #[.int .i64 c, .int .i64 d], .int .i64 n] w fun e w' => e = .returned (.bool true) ∧ Below w.heap.size w w' := by
  have HH := hid h
  clear h
  go_enter Tryd.func7, Tryd.ntmps7
  go_upto_region 3 with (first | (go_at_call 9; refine (right_any _ _ _).mono ?_; rintro e w' ⟨rfl, hb1⟩; (first | have hq1 := hz1 | have hq1 := True.intro); (first | have hq0 := hz0 | have hq0 := True.intro); obtain ⟨hcc, hff⟩ := bcell hb1; have hz1 := hb1.size; (try simp at hz1); (try have hy1 := Nat.lt_of_lt_of_le hq1 hz1); (try have hy0 := Nat.lt_of_lt_of_le hq0 hz1); (try replace hz1 := Nat.lt_of_succ_le hz1); (try have hz0 := Nat.lt_of_succ_lt hz1)))
  all_goals first
    | (exfalso; exact HH.out ⟨by assumption, by simpa using (by assumption : (!rightB c d) = false)⟩)
    | (go_ret; exact ⟨rfl, (by repeat (first | exact Below.refl _ _ | assumption | refine Below.alloc ?_ (by first | exact Nat.le_refl _ | (simp; done) | (simp; omega) | omega) _ | refine Below.drew ?_ | refine Below.setCell ?_ (by first | exact Nat.le_refl _ | (simp; done) | (simp; omega) | omega) _ | refine below_call ?_ (by assumption) (by first | exact Nat.le_refl _ | (simp; done) | (simp; omega) | omega)))⟩)
end Go.Proofs.YtlpocahflolmpaaDoor
