/- Texts of this claim, as far as they are used here: PNamesReadsx3, L0, M0, M1, U3, U4, U4s1, U4s2. -/
import Derived.Test.YtiohiiekaofkbaaGreatDoorZ04
import Derived.Test.YtiohiiekaofkbaaGreatDoorZ02
import Derived.Test.YtiohiiekaofkbaaGreatDoorZ00
/- Printed for this claim. -/
namespace Go.Proofs.YtiohiiekaofkbaaGreatDoor.PNamesReads
open Go.RowKit Go.Proofs.YtiohiiekaofkbaaGreatDoorW.PrintWords Go.Proofs.YtiohiiekaofkbaaGreatDoorW.PrintLast Go.Proofs.YtiohiiekaofkbaaGreatDoorW.PrintMore
attribute [local go_sem] max2_int min2_int max_two min_two max_three min_three max_four min_four
set_option linter.unusedVariables false
set_option linter.unusedSimpArgs false
def IsS80 (w0 W : World) (g : Nat) (f0 : ByteArray) (f1 : Bool) : Prop := W.heap[g]? = some (.cells #[.string f0, .bool f1] 80 (0, 0)) ∧ w0.heap.size ≤ g
theorem IsS80.grown {w0 W : World} {g : Nat} {f0 : ByteArray} {f1 : Bool} {W1 : World} {row : Option Nat} (h : IsS80 w0 W g f0 f1) (hw : W.grownBy W1 row) (hne : some g ≠ row) : IsS80 w0 W1 g f0 f1 := by
  obtain ⟨hb, hg⟩ := h
  exact ⟨blk_grown hb hw hne, hg⟩
theorem IsS80.kept {w0 W : World} {g : Nat} {f0 : ByteArray} {f1 : Bool} {W1 : World} {S : Nat → Prop} (h : IsS80 w0 W g f0 f1) (hk : Kept W W1 S) (hne : ¬ S g) : IsS80 w0 W1 g f0 f1 := by
  obtain ⟨hb, hg⟩ := h
  exact ⟨blk_kept hb hk hne, hg⟩
theorem IsS80.below {w0 W : World} {g : Nat} {f0 : ByteArray} {f1 : Bool} {W1 : World} (h : IsS80 w0 W g f0 f1) (hw : Below W.heap.size W W1) : IsS80 w0 W1 g f0 f1 := h.grown (grown_of_below hw none) (by simp)
theorem IsS80.alloc {w0 W : World} {g : Nat} {f0 : ByteArray} {f1 : Bool} (h : IsS80 w0 W g f0 f1) (o : Obj) : IsS80 w0 (W.alloc o) g f0 f1 := h.below (below_alloc (Below.refl _ _) o)
theorem IsS80.drewN {w0 W : World} {g : Nat} {f0 : ByteArray} {f1 : Bool} (h : IsS80 w0 W g f0 f1) (m : Nat) : IsS80 w0 (W.drewN m) g f0 f1 := h
theorem IsS80.drew {w0 W : World} {g : Nat} {f0 : ByteArray} {f1 : Bool} (h : IsS80 w0 W g f0 f1) : IsS80 w0 W.drew g f0 f1 := h
theorem IsS80.at_ {w0 W : World} {g : Nat} {f0 : ByteArray} {f1 : Bool} {w' : World} {m : Nat} (hq : W.drewN m = w') (h : IsS80 w0 W g f0 f1) : IsS80 w0 w' g f0 f1 := by subst hq; exact IsS80.drewN h m
theorem IsS80.apart {w0 W : World} {g : Nat} {f0 : ByteArray} {f1 : Bool} {α : Type} {d : Kd α} {e : Nat} {base : Nat} {ok : Nat → Prop} {v : Value} {xs : List α} (h : IsS80 w0 W g f0 f1) (ho : d.R e W base ok v xs) (ht : ∀ q, q ∈ e :: d.E → q ≠ 80) : d.R e W base (fun k => ok k ∧ k ≠ g) v xs := by
  obtain ⟨hb, hg⟩ := h
  exact Kd.R_types ho hb ht
theorem IsS80.own_ne {w0 W : World} {g : Nat} {f0 : ByteArray} {f1 : Bool} {α : Type} {d : Kd α} {e : Nat} {base : Nat} {ok : Nat → Prop} {v : Value} {xs : List α} (h : IsS80 w0 W g f0 f1) (ho : d.R e W base ok v xs) (ht : e ≠ 80) : some g ≠ v.ownBlock := by
  obtain ⟨hb, hg⟩ := h
  exact Kd.R_ne ho hb ht
theorem IsS80.lt {w0 W : World} {g : Nat} {f0 : ByteArray} {f1 : Bool} (h : IsS80 w0 W g f0 f1) : g < W.heap.size := by
  obtain ⟨hb, hg⟩ := h
  exact blk_lt hb
theorem IsS80.ge {w0 W : World} {g : Nat} {f0 : ByteArray} {f1 : Bool} (h : IsS80 w0 W g f0 f1) : w0.heap.size ≤ g := by
  obtain ⟨hb, hg⟩ := h
  exact hg
theorem cellS80_0 {W : World} {g : Nat} {f0 : ByteArray} {f1 : Bool} (h : W.heap[g]? = some (.cells #[.string f0, .bool f1] 80 (0, 0))) : W.cell? ⟨g, 0, none⟩ = some (.string f0) := (blk_cell h 0).trans rfl
theorem IsS80.set_0 {w0 W : World} {g : Nat} {f0 : ByteArray} {f1 : Bool} (h : IsS80 w0 W g f0 f1) (x : ByteArray) : IsS80 w0 (W.setCell ⟨g, 0, none⟩ (.string x)) g x f1 := by
  obtain ⟨hb, hg⟩ := h
  exact ⟨by simpa using blk_set hb 0 (.string x), hg⟩
theorem cellS80_1 {W : World} {g : Nat} {f0 : ByteArray} {f1 : Bool} (h : W.heap[g]? = some (.cells #[.string f0, .bool f1] 80 (0, 0))) : W.cell? ⟨g, 1, none⟩ = some (.bool f1) := (blk_cell h 1).trans rfl
theorem IsS80.set_1 {w0 W : World} {g : Nat} {f0 : ByteArray} {f1 : Bool} (h : IsS80 w0 W g f0 f1) (x : Bool) : IsS80 w0 (W.setCell ⟨g, 1, none⟩ (.bool x)) g f0 x := by
  obtain ⟨hb, hg⟩ := h
  exact ⟨by simpa using blk_set hb 1 (.bool x), hg⟩
theorem IsS80.new (w0 W : World) (f0 : ByteArray) (f1 : Bool) (hB : Below w0.heap.size w0 W) : IsS80 w0 (W.alloc (.cells #[.string f0, .bool f1] 80)) W.heap.size f0 f1 := ⟨by simpa using heap_alloc_new W _, hB.size⟩
def dobbyref14_reader_raw.f (s0_0 : ByteArray) (s0_1 : Bool) (a1 : Int) : Option (ByteArray × ByteArray × Bool) := if (IntKind.u64.wrap (a1)) > (IntKind.u64.wrap ((s0_0.size : Int))) then (some ((⟨#[]⟩ : ByteArray), s0_0, true)) else (if s0_1 = true then (some ((⟨#[]⟩ : ByteArray), s0_0, true)) else (if 0 ≤ a1 then (if a1 ≤ (s0_0.size : Int) then (some (s0_0.extract 0 (a1 : Int).toNat, s0_0.extract (a1 : Int).toNat s0_0.size, s0_1)) else (none)) else (none)))
set_option maxHeartbeats 8000000 in
set_option maxRecDepth 100000 in
theorem dobbyref14_reader_raw.calls (g : Nat) (s0_0 : ByteArray) (s0_1 : Bool) (a1 : Int) (r1 : ByteArray) (r2 : ByteArray) (r3 : Bool) (w0 w : World) (hI : IsS80 w0 w g s0_0 s0_1) (hB : Below w0.heap.size w0 w) (h : dobbyref14_reader_raw.f s0_0 s0_1 a1 = some (r1, r2, r3)) :
    Calls Tryz.prog 18 #[.pointer (some ⟨g, 0, none⟩), .int .u32 a1] w fun e w' => e = .returned (.string r1) ∧ IsS80 w0 w' g r2 r3 ∧ Below w0.heap.size w0 w' ∧ KeepBut w w' g none := by
  have HI0 := Aside0.mk hI
  have HK := Aside0.mk (KeepBut.refl w g none)
  have HL := Aside0.mk hB.size
  clear hI
  have HW0 := Aside0.mk hB.size
  have HB := Aside0.mk hB
  clear hB
  have H : (if (IntKind.u64.wrap (a1)) > (IntKind.u64.wrap ((s0_0.size : Int))) then (some ((⟨#[]⟩ : ByteArray), s0_0, true)) else (if s0_1 = true then (some ((⟨#[]⟩ : ByteArray), s0_0, true)) else (if 0 ≤ a1 then (if a1 ≤ (s0_0.size : Int) then (some (s0_0.extract 0 (a1 : Int).toNat, s0_0.extract (a1 : Int).toNat s0_0.size, s0_1)) else (none)) else (none)))) = some (r1, r2, r3) := h
  clear h
  by_cases c3 : (IntKind.u64.wrap (a1)) > (IntKind.u64.wrap ((s0_0.size : Int)))
  · rw [if_pos c3] at H
    have c3b0 : decide ((IntKind.u64.wrap ((s0_0.size : Int))) < (IntKind.u64.wrap (a1))) = true := decide_eq_true c3
    clear c3
    simp only [Option.some.injEq, Prod.mk.injEq] at H
    obtain ⟨rfl, rfl, rfl⟩ := H
    obtain ⟨HGz4, hgz4⟩ := HI0.out
    have hcz4_0 := cellS80_0 HGz4
    have hcz4_1 := cellS80_1 HGz4
    have hfz4_0 := blk_frozen HGz4 0
    have hfz4_1 := blk_frozen HGz4 1
    clear HGz4 hgz4
    go_enter Tryz.func18, Tryz.ntmps18
    go_wp2
    go_ret
    exact ⟨by first | rfl | (simp [errW_none, errW_some] <;> rfl) | (simp [*, errW_none, errW_some] <;> rfl), by repeat (first | (with_reducible first | exact HI0.out | apply IsS80.alloc | apply IsS80.drewN | apply IsS80.drew | apply IsS80.set_0 | apply IsS80.set_1) | exact HI0.out), by repeat (first | (with_reducible first | exact HB.out | apply below_alloc | apply pw_below_drewN | apply below_drew1 | refine below_set ?_ (IsS80.ge HI0.out)) | exact HB.out), by repeat (first | (with_reducible first | exact HK.out | apply KeepBut.set_ | apply keep_drewN | apply keep_drew | apply keep_alloc) | exact HK.out)⟩
  · rw [if_neg c3] at H
    have c3b0 : decide ((IntKind.u64.wrap ((s0_0.size : Int))) < (IntKind.u64.wrap (a1))) = false := decide_eq_false c3
    clear c3
    by_cases c5 : s0_1 = true
    · subst c5
      have H1 : (some ((⟨#[]⟩ : ByteArray), s0_0, true)) = some (r1, r2, r3) := by rw [if_pos rfl] at H; exact H
      clear H
      have H := H1
      clear H1
      simp only [Option.some.injEq, Prod.mk.injEq] at H
      obtain ⟨rfl, rfl, rfl⟩ := H
      obtain ⟨HGz6, hgz6⟩ := HI0.out
      have hcz6_0 := cellS80_0 HGz6
      have hcz6_1 := cellS80_1 HGz6
      have hfz6_0 := blk_frozen HGz6 0
      have hfz6_1 := blk_frozen HGz6 1
      clear HGz6 hgz6
      go_enter Tryz.func18, Tryz.ntmps18
      go_wp2
      go_ret
      exact ⟨by first | rfl | (simp [errW_none, errW_some] <;> rfl) | (simp [*, errW_none, errW_some] <;> rfl), by repeat (first | (with_reducible first | exact HI0.out | apply IsS80.alloc | apply IsS80.drewN | apply IsS80.drew | apply IsS80.set_0 | apply IsS80.set_1) | exact HI0.out), by repeat (first | (with_reducible first | exact HB.out | apply below_alloc | apply pw_below_drewN | apply below_drew1 | refine below_set ?_ (IsS80.ge HI0.out)) | exact HB.out), by repeat (first | (with_reducible first | exact HK.out | apply KeepBut.set_ | apply keep_drewN | apply keep_drew | apply keep_alloc) | exact HK.out)⟩
    · replace c5 := Bool.eq_false_iff.mpr c5
      subst c5
      have H1 : (if 0 ≤ a1 then (if a1 ≤ (s0_0.size : Int) then (some (s0_0.extract 0 (a1 : Int).toNat, s0_0.extract (a1 : Int).toNat s0_0.size, false)) else (none)) else (none)) = some (r1, r2, r3) := by rw [if_neg (show ¬ (false = true) by decide)] at H; exact H
      clear H
      have H := H1
      clear H1
      by_cases c7 : 0 ≤ a1
      · rw [if_pos c7] at H
        have c7b0 := eq_true c7
        have c7b1 : decide (0 ≤ a1) = true := decide_eq_true c7
        clear c7
        by_cases c8 : a1 ≤ (s0_0.size : Int)
        · rw [if_pos c8] at H
          have c8b0 := eq_true c8
          have c8b1 : decide (a1 ≤ (s0_0.size : Int)) = true := decide_eq_true c8
          clear c8
          have c9b0 := eq_true (of_decide_eq_true (by first | (with_reducible assumption) | assumption) : 0 ≤ a1)
          have c10b0 := eq_true (of_decide_eq_true (by first | (with_reducible assumption) | assumption) : a1 ≤ (s0_0.size : Int))
          simp only [Option.some.injEq, Prod.mk.injEq] at H
          obtain ⟨rfl, rfl, rfl⟩ := H
          obtain ⟨HGz11, hgz11⟩ := HI0.out
          have hcz11_0 := cellS80_0 HGz11
          have hcz11_1 := cellS80_1 HGz11
          have hfz11_0 := blk_frozen HGz11 0
          have hfz11_1 := blk_frozen HGz11 1
          clear HGz11 hgz11
          go_enter Tryz.func18, Tryz.ntmps18
          go_wp2
          go_ret
          exact ⟨by first | rfl | (simp [errW_none, errW_some] <;> rfl) | (simp [*, errW_none, errW_some] <;> rfl), by repeat (first | (with_reducible first | exact HI0.out | apply IsS80.alloc | apply IsS80.drewN | apply IsS80.drew | apply IsS80.set_0 | apply IsS80.set_1) | exact HI0.out), by repeat (first | (with_reducible first | exact HB.out | apply below_alloc | apply pw_below_drewN | apply below_drew1 | refine below_set ?_ (IsS80.ge HI0.out)) | exact HB.out), by repeat (first | (with_reducible first | exact HK.out | apply KeepBut.set_ | apply keep_drewN | apply keep_drew | apply keep_alloc) | exact HK.out)⟩
        · rw [if_neg c8] at H
          exact absurd H (by simp)
      · rw [if_neg c7] at H
        exact absurd H (by simp)
def dobbyref01_Most.f (a0 : Int) : Option (Int) := if (Int.tmod a0 7) = 0 then (some (wrap64 (Int.tdiv a0 7))) else (some (wrap64 ((wrap64 (Int.tdiv a0 7)) + 1)))
set_option maxHeartbeats 8000000 in
set_option maxRecDepth 100000 in
theorem dobbyref01_Most.calls (a0 : Int) (r : Int) (w : World) (h : dobbyref01_Most.f a0 = some r) :
    Calls Tryz.prog 75 #[.int .i64 a0] w fun e w' => e = .returned (.int .i64 r) ∧ Drawn0 w w' := by
  have H : (if (Int.tmod a0 7) = 0 then (some (wrap64 (Int.tdiv a0 7))) else (some (wrap64 ((wrap64 (Int.tdiv a0 7)) + 1)))) = some r := h
  clear h
  by_cases c2 : (Int.tmod a0 7) = 0
  · rw [if_pos c2] at H
    have c2b0 : ((Int.tmod a0 7) == 0) = true := beq_iff_eq.mpr c2
    have c2b1 : ((Int.tmod a0 7) != 0) = false := bne_eq_false_iff_eq.mpr c2
    clear c2
    obtain rfl := Option.some.inj H
    go_enter Tryz.func75, Tryz.ntmps75
    go_wp2
    go_ret
    exact ⟨by first | rfl | (simp; done) | (simp [*]; done), by repeat (first | exact Drawn0.refl _ | apply Drawn0.step)⟩
  · rw [if_neg c2] at H
    have c2b0 : ((Int.tmod a0 7) == 0) = false := beq_eq_false_iff_ne.mpr c2
    have c2b1 : ((Int.tmod a0 7) != 0) = true := bne_iff_ne.mpr c2
    obtain rfl := Option.some.inj H
    go_enter Tryz.func75, Tryz.ntmps75
    go_wp2
    go_ret
    exact ⟨by first | rfl | (simp; done) | (simp [*]; done), by repeat (first | exact Drawn0.refl _ | apply Drawn0.step)⟩
def dobbyref01_End.l0 : Nat → List Int → Int → Int → Option (Int × Int)
  | 0, _, _, _ => none
  | k + 1, x0, x1, x6 => (dobbyref01_Most.f x1).bind fun t101 => (if x6 < t101 then (if x6 ≥ (x0.length : Int) then (some ((x0.length : Int), 1)) else (if 0 ≤ x6 then (if x6 < (x0.length : Int) then (if (rd x0 x6) < 128 then (some (wrap64 (x6 + 1), 0)) else (dobbyref01_End.l0 k x0 x1 (wrap64 (x6 + 1)))) else (none)) else (none))) else ((dobbyref01_Most.f x1).bind fun t102 => (some (wrap64 (t102 - 1), 2))))
def dobbyref01_End.f (k : Nat) (l0 : List Int) (a1 : Int) : Option (Int × Int) := dobbyref01_End.l0 k l0 a1 0
theorem dobbyref01_End.mono_l : ∀ k, (∀ y0 y1 y2, LeO (dobbyref01_End.l0 k y0 y1 y2) (dobbyref01_End.l0 (k + 1) y0 y1 y2))
  | 0 => fun _ _ _ r h => by simp [dobbyref01_End.l0] at h
  | k + 1 => by
    have ih0 := dobbyref01_End.mono_l k
    · intro y0 y1 y2
      unfold dobbyref01_End.l0
      repeat' first
      | (with_reducible exact ih0 _ _ _)
      | (with_reducible exact LeO.refl _)
      | (with_reducible exact LeO.none _)
      | (with_reducible refine LeO.ite ?_ ?_)
      | (with_reducible refine LeO.bind ?_ (fun _ => ?_))
      | exact ih0 _ _ _
      | exact LeO.none _
      | refine LeO.ite ?_ ?_
      | refine LeO.bind ?_ (fun _ => ?_)
theorem dobbyref01_End.mono : ∀ a0 a1 k, LeO (dobbyref01_End.f k a0 a1) (dobbyref01_End.f (k + 1) a0 a1) := by
  intro a0 a1 k
  have ih0 := dobbyref01_End.mono_l k
  unfold dobbyref01_End.f
  repeat' first
      | (with_reducible exact ih0 _ _ _)
      | (with_reducible exact LeO.refl _)
      | (with_reducible exact LeO.none _)
      | (with_reducible refine LeO.ite ?_ ?_)
      | (with_reducible refine LeO.bind ?_ (fun _ => ?_))
      | exact ih0 _ _ _
      | exact LeO.none _
      | refine LeO.ite ?_ ?_
      | refine LeO.bind ?_ (fun _ => ?_)
set_option maxHeartbeats 8000000 in
set_option maxRecDepth 100000 in
theorem dobbyref01_End.calls (k : Nat) (A0 : Option Addr) (c0 : Nat) (l0 : List Int) (a1 : Int) (r1 : Int) (r2 : Int) (w : World) (hr0 : Kd.C (Kd.int .u8) w A0 l0.length l0) (hc0 : l0.length ≤ c0) (h : dobbyref01_End.f k l0 a1 = some (r1, r2)) :
    Calls Tryz.prog 74 #[.slice A0 l0.length c0, .int .i64 a1] w fun e w' => e = .returned (.tuple #[.int .i64 r1, .int .i64 r2]) ∧ Drawn0 w w' := by
  have HR0 := Aside0.mk hr0
  have HC0 := Aside0.mk hc0
  clear hr0 hc0
  have H : (dobbyref01_End.l0 k l0 a1 0) = some (r1, r2) := h
  clear h
  have H' := Aside0.mk H
  clear H
  go_enter Tryz.func74, Tryz.ntmps74
  go_wp2
  go_loopg [6] k (fun kq v6 w' => ∃ (x6_1 : Int), v6 = .int .i64 x6_1 ∧ Aside0 (dobbyref01_End.l0 kq l0 a1 x6_1 = some (r1, r2)) ∧ Aside0 (kq ≤ k) ∧ Drawn0 w w')
  case atStart => exact ⟨(0), (by first | rfl | (simp; done) | (simp [*]; done)), H', ⟨Nat.le_refl _⟩, by repeat (first | exact Drawn0.refl _ | apply Drawn0.step)⟩
  case round =>
    clear H'
    try clear p2
    obtain ⟨x6_1, rfl, HA, HK1, ⟨m1, rfl⟩⟩ := hrel
    cases gk with
    | zero => exact absurd HA.out (by simp [dobbyref01_End.l0])
    | succ k1 =>
      have H := HA.out
      clear HA
      simp only [dobbyref01_End.l0] at H
      replace H := Option.bind_eq_some_iff.mp H
      obtain ⟨t101, A30, H⟩ := H
      replace H : (if x6_1 < t101 then (if x6_1 ≥ (l0.length : Int) then (some ((l0.length : Int), 1)) else (if 0 ≤ x6_1 then (if x6_1 < (l0.length : Int) then (if (rd l0 x6_1) < 128 then (some (wrap64 (x6_1 + 1), 0)) else (dobbyref01_End.l0 k1 l0 a1 (wrap64 (x6_1 + 1)))) else (none)) else (none))) else ((dobbyref01_Most.f a1).bind fun t102 => (some (wrap64 (t102 - 1), 2)))) = some (r1, r2) := H
      have A3 := Aside0.mk A30
      clear A30
      by_cases c4 : x6_1 < t101
      · rw [if_pos c4] at H
        have c4b0 : decide (x6_1 < t101) = true := decide_eq_true c4
        clear c4
        by_cases c5 : x6_1 ≥ (l0.length : Int)
        · rw [if_pos c5] at H
          have c5b0 : decide ((l0.length : Int) ≤ x6_1) = true := decide_eq_true c5
          clear c5
          simp only [Option.some.injEq, Prod.mk.injEq] at H
          obtain ⟨rfl, rfl⟩ := H
          go_wp2_with (first | ((with_reducible refine gate_callee (f := 75) rfl ?_); refine goesL_ (some 9) rfl rfl Tryz.func75 (by kernel_rfl) rfl #[.int .i64 a1] rfl (by (try simp only [List.map_toArray, List.map_cons, List.map_nil]); first | done | rfl | (simp only [List.length_drop, List.length_take]; rfl)) ?_; (with_reducible refine (dobbyref01_Most.calls a1 t101 _ A3.out).mono ?_); rintro e w' ⟨rfl, ⟨nd, rfl⟩⟩; refine ⟨_, rfl, ?_⟩))
          go_ret2
          exact ⟨by first | rfl | (simp; done) | (simp [*]; done), by repeat (first | exact Drawn0.refl _ | apply Drawn0.step)⟩
        · rw [if_neg c5] at H
          have c5b0 : decide ((l0.length : Int) ≤ x6_1) = false := decide_eq_false c5
          clear c5
          by_cases c6 : 0 ≤ x6_1
          · rw [if_pos c6] at H
            have c6b0 : decide (0 ≤ x6_1) = true := decide_eq_true c6
            clear c6
            by_cases c7 : x6_1 < (l0.length : Int)
            · rw [if_pos c7] at H
              have c7b0 : decide (x6_1 < (l0.length : Int)) = true := decide_eq_true c7
              clear c7
              by_cases c8 : (rd l0 x6_1) < 128
              · rw [if_pos c8] at H
                have c8b0 : decide ((rd l0 x6_1) < 128) = true := decide_eq_true c8
                clear c8
                simp only [Option.some.injEq, Prod.mk.injEq] at H
                obtain ⟨rfl, rfl⟩ := H
                go_wp2_with (first | ((with_reducible refine gate_callee (f := 75) rfl ?_); refine goesL_ (some 9) rfl rfl Tryz.func75 (by kernel_rfl) rfl #[.int .i64 a1] rfl (by (try simp only [List.map_toArray, List.map_cons, List.map_nil]); first | done | rfl | (simp only [List.length_drop, List.length_take]; rfl)) ?_; (with_reducible refine (dobbyref01_Most.calls a1 t101 _ A3.out).mono ?_); rintro e w' ⟨rfl, ⟨nd, rfl⟩⟩; refine ⟨_, rfl, ?_⟩; have p103 : 0 ≤ (x6_1 : Int) := of_decide_eq_true (by first | (with_reducible assumption) | assumption); have q103 : x6_1 < (l0.length : Int) := of_decide_eq_true (by first | (with_reducible assumption) | assumption); obtain ⟨ad103, e103, hx103_0⟩ := Kd.at_int HR0.out x6_1 p103 q103; cases e103; replace p103 := eq_true p103; replace q103 := eq_true q103))
                go_ret2
                exact ⟨by first | rfl | (simp; done) | (simp [*]; done), by repeat (first | exact Drawn0.refl _ | apply Drawn0.step)⟩
              · rw [if_neg c8] at H
                have c8b0 : decide ((rd l0 x6_1) < 128) = false := decide_eq_false c8
                clear c8
                have H' := Aside0.mk H
                clear H
                go_wp2_with (first | ((with_reducible refine gate_callee (f := 75) rfl ?_); refine goesL_ (some 9) rfl rfl Tryz.func75 (by kernel_rfl) rfl #[.int .i64 a1] rfl (by (try simp only [List.map_toArray, List.map_cons, List.map_nil]); first | done | rfl | (simp only [List.length_drop, List.length_take]; rfl)) ?_; (with_reducible refine (dobbyref01_Most.calls a1 t101 _ A3.out).mono ?_); rintro e w' ⟨rfl, ⟨nd, rfl⟩⟩; refine ⟨_, rfl, ?_⟩; have p103 : 0 ≤ (x6_1 : Int) := of_decide_eq_true (by first | (with_reducible assumption) | assumption); have q103 : x6_1 < (l0.length : Int) := of_decide_eq_true (by first | (with_reducible assumption) | assumption); obtain ⟨ad103, e103, hx103_0⟩ := Kd.at_int HR0.out x6_1 p103 q103; cases e103; replace p103 := eq_true p103; replace q103 := eq_true q103))
                go_roundg k1
                case measure => have := HK1.out; omega
                case rel => exact ⟨(wrap64 (x6_1 + 1)), (by first | rfl | (simp; done) | (simp [*]; done)), H', ⟨by have := HK1.out; omega⟩, by repeat (first | exact Drawn0.refl _ | apply Drawn0.step)⟩
            · rw [if_neg c7] at H
              exact absurd H (by simp)
          · rw [if_neg c6] at H
            exact absurd H (by simp)
      · rw [if_neg c4] at H
        have c4b0 : decide (x6_1 < t101) = false := decide_eq_false c4
        clear c4
        replace H := Option.bind_eq_some_iff.mp H
        obtain ⟨t102, A90, H⟩ := H
        replace H : (some (wrap64 (t102 - 1), 2)) = some (r1, r2) := H
        have A9 := Aside0.mk A90
        clear A90
        simp only [Option.some.injEq, Prod.mk.injEq] at H
        obtain ⟨rfl, rfl⟩ := H
        go_wp2_with (first | ((with_reducible refine gate_callee (f := 75) rfl ?_); refine goesL_ (some 9) rfl rfl Tryz.func75 (by kernel_rfl) rfl #[.int .i64 a1] rfl (by (try simp only [List.map_toArray, List.map_cons, List.map_nil]); first | done | rfl | (simp only [List.length_drop, List.length_take]; rfl)) ?_; (with_reducible refine (dobbyref01_Most.calls a1 t101 _ A3.out).mono ?_); rintro e w' ⟨rfl, ⟨nd, rfl⟩⟩; refine ⟨_, rfl, ?_⟩) | ((with_reducible refine gate_callee (f := 75) rfl ?_); refine goesL_ (some 27) rfl rfl Tryz.func75 (by kernel_rfl) rfl #[.int .i64 a1] rfl (by (try simp only [List.map_toArray, List.map_cons, List.map_nil]); first | done | rfl | (simp only [List.length_drop, List.length_take]; rfl)) ?_; (with_reducible refine (dobbyref01_Most.calls a1 t102 _ A9.out).mono ?_); rintro e w' ⟨rfl, ⟨nd, rfl⟩⟩; refine ⟨_, rfl, ?_⟩))
        go_ret2
        exact ⟨by first | rfl | (simp; done) | (simp [*]; done), by repeat (first | exact Drawn0.refl _ | apply Drawn0.step)⟩
mutual
def dobbyref01_U.j0 : Nat → List Int → Int → Option (Int × Int × Int)
  | 0, _, _ => none
  | k + 1, x0, x7 => dobbyref01_U.l0 k x0 x7 0 (wrap64 (x7 - 1))
def dobbyref01_U.l0 : Nat → List Int → Int → Int → Int → Option (Int × Int × Int)
  | 0, _, _, _, _ => none
  | k + 1, x0, x7, x10, x11 => if x11 ≥ 0 then (if 0 ≤ x11 then (if x11 < (x0.length : Int) then (dobbyref01_U.l0 k x0 x7 (IntKind.u64.wrap ((IntKind.u64.wrap (x10 * 128)) + (IntKind.u64.wrap (Int.tmod (rd x0 x11) 128)))) (wrap64 (x11 - 1))) else (none)) else (none)) else (some (x10, x7, 0))
end
def dobbyref01_U.f (k : Nat) (l0 : List Int) (a1 : Int) : Option (Int × Int × Int) := (dobbyref01_End.f k l0 a1).bind fun bt104 => (if bt104.2 = 0 then ((dobbyref01_Most.f a1).bind fun t106 => (if bt104.1 = t106 then (if 0 ≤ (wrap64 (bt104.1 - 1)) then (if (wrap64 (bt104.1 - 1)) < (l0.length : Int) then (if 0 ≤ (wrap64 (a1 - (wrap64 (7 * (wrap64 (bt104.1 - 1)))))) then (if (shr .i64 (wrap64 (rd l0 (wrap64 (bt104.1 - 1)))) (wrap64 (a1 - (wrap64 (7 * (wrap64 (bt104.1 - 1))))))) = 0 then (dobbyref01_U.j0 k l0 bt104.1) else (some (0, wrap64 (bt104.1 - 1), 2))) else (none)) else (none)) else (none)) else (dobbyref01_U.j0 k l0 bt104.1))) else (some (0, bt104.1, bt104.2)))
theorem dobbyref01_U.mono_l : ∀ k, (∀ y0 y1, LeO (dobbyref01_U.j0 k y0 y1) (dobbyref01_U.j0 (k + 1) y0 y1)) ∧ (∀ y0 y1 y2 y3, LeO (dobbyref01_U.l0 k y0 y1 y2 y3) (dobbyref01_U.l0 (k + 1) y0 y1 y2 y3))
  | 0 => ⟨fun _ _ r h => by simp [dobbyref01_U.j0] at h, fun _ _ _ _ r h => by simp [dobbyref01_U.l0] at h⟩
  | k + 1 => by
    obtain ⟨ih0, ih1⟩ := dobbyref01_U.mono_l k
    refine ⟨?_, ?_⟩
    · intro y0 y1
      unfold dobbyref01_U.j0
      repeat' first
      | (with_reducible exact ih0 _ _)
      | (with_reducible exact ih1 _ _ _ _)
      | (with_reducible exact dobbyref01_End.mono _ _ _)
      | (with_reducible exact LeO.refl _)
      | (with_reducible exact LeO.none _)
      | (with_reducible refine LeO.ite ?_ ?_)
      | (with_reducible refine LeO.bind ?_ (fun _ => ?_))
      | exact ih0 _ _
      | exact ih1 _ _ _ _
      | exact dobbyref01_End.mono _ _ _
      | exact LeO.none _
      | refine LeO.ite ?_ ?_
      | refine LeO.bind ?_ (fun _ => ?_)
    · intro y0 y1 y2 y3
      unfold dobbyref01_U.l0
      repeat' first
      | (with_reducible exact ih0 _ _)
      | (with_reducible exact ih1 _ _ _ _)
      | (with_reducible exact dobbyref01_End.mono _ _ _)
      | (with_reducible exact LeO.refl _)
      | (with_reducible exact LeO.none _)
      | (with_reducible refine LeO.ite ?_ ?_)
      | (with_reducible refine LeO.bind ?_ (fun _ => ?_))
      | exact ih0 _ _
      | exact ih1 _ _ _ _
      | exact dobbyref01_End.mono _ _ _
      | exact LeO.none _
      | refine LeO.ite ?_ ?_
      | refine LeO.bind ?_ (fun _ => ?_)
theorem dobbyref01_U.mono : ∀ a0 a1 k, LeO (dobbyref01_U.f k a0 a1) (dobbyref01_U.f (k + 1) a0 a1) := by
  intro a0 a1 k
  obtain ⟨ih0, ih1⟩ := dobbyref01_U.mono_l k
  unfold dobbyref01_U.f
  repeat' first
      | (with_reducible exact ih0 _ _)
      | (with_reducible exact ih1 _ _ _ _)
      | (with_reducible exact dobbyref01_End.mono _ _ _)
      | (with_reducible exact LeO.refl _)
      | (with_reducible exact LeO.none _)
      | (with_reducible refine LeO.ite ?_ ?_)
      | (with_reducible refine LeO.bind ?_ (fun _ => ?_))
      | exact ih0 _ _
      | exact ih1 _ _ _ _
      | exact dobbyref01_End.mono _ _ _
      | exact LeO.none _
      | refine LeO.ite ?_ ?_
      | refine LeO.bind ?_ (fun _ => ?_)
set_option maxHeartbeats 8000000 in
set_option maxRecDepth 100000 in
theorem dobbyref01_U.calls (k : Nat) (A0 : Option Addr) (c0 : Nat) (l0 : List Int) (a1 : Int) (r1 : Int) (r2 : Int) (r3 : Int) (w : World) (hr0 : Kd.C (Kd.int .u8) w A0 l0.length l0) (hc0 : l0.length ≤ c0) (h : dobbyref01_U.f k l0 a1 = some (r1, r2, r3)) :
    Calls Tryz.prog 50 #[.slice A0 l0.length c0, .int .i64 a1] w fun e w' => e = .returned (.tuple #[.int .u64 r1, .int .i64 r2, .int .i64 r3]) ∧ Drawn0 w w' := by
  have HR0 := Aside0.mk hr0
  have HC0 := Aside0.mk hc0
  clear hr0 hc0
  have H : ((dobbyref01_End.f k l0 a1).bind fun bt104 => (if bt104.2 = 0 then ((dobbyref01_Most.f a1).bind fun t106 => (if bt104.1 = t106 then (if 0 ≤ (wrap64 (bt104.1 - 1)) then (if (wrap64 (bt104.1 - 1)) < (l0.length : Int) then (if 0 ≤ (wrap64 (a1 - (wrap64 (7 * (wrap64 (bt104.1 - 1)))))) then (if (shr .i64 (wrap64 (rd l0 (wrap64 (bt104.1 - 1)))) (wrap64 (a1 - (wrap64 (7 * (wrap64 (bt104.1 - 1))))))) = 0 then (dobbyref01_U.j0 k l0 bt104.1) else (some (0, wrap64 (bt104.1 - 1), 2))) else (none)) else (none)) else (none)) else (dobbyref01_U.j0 k l0 bt104.1))) else (some (0, bt104.1, bt104.2)))) = some (r1, r2, r3) := h
  clear h
  replace H := Option.bind_eq_some_iff.mp H
  obtain ⟨⟨t104, t105⟩, A30, H⟩ := H
  replace H : (if t105 = 0 then ((dobbyref01_Most.f a1).bind fun t106 => (if t104 = t106 then (if 0 ≤ (wrap64 (t104 - 1)) then (if (wrap64 (t104 - 1)) < (l0.length : Int) then (if 0 ≤ (wrap64 (a1 - (wrap64 (7 * (wrap64 (t104 - 1)))))) then (if (shr .i64 (wrap64 (rd l0 (wrap64 (t104 - 1)))) (wrap64 (a1 - (wrap64 (7 * (wrap64 (t104 - 1))))))) = 0 then (dobbyref01_U.j0 k l0 t104) else (some (0, wrap64 (t104 - 1), 2))) else (none)) else (none)) else (none)) else (dobbyref01_U.j0 k l0 t104))) else (some (0, t104, t105))) = some (r1, r2, r3) := H
  have A3 := Aside0.mk A30
  clear A30
  by_cases c4 : t105 = 0
  · rw [if_pos c4] at H
    have c4b0 : (t105 == 0) = true := beq_iff_eq.mpr c4
    have c4b1 : (t105 != 0) = false := bne_eq_false_iff_eq.mpr c4
    clear c4
    replace H := Option.bind_eq_some_iff.mp H
    obtain ⟨t106, A50, H⟩ := H
    replace H : (if t104 = t106 then (if 0 ≤ (wrap64 (t104 - 1)) then (if (wrap64 (t104 - 1)) < (l0.length : Int) then (if 0 ≤ (wrap64 (a1 - (wrap64 (7 * (wrap64 (t104 - 1)))))) then (if (shr .i64 (wrap64 (rd l0 (wrap64 (t104 - 1)))) (wrap64 (a1 - (wrap64 (7 * (wrap64 (t104 - 1))))))) = 0 then (dobbyref01_U.j0 k l0 t104) else (some (0, wrap64 (t104 - 1), 2))) else (none)) else (none)) else (none)) else (dobbyref01_U.j0 k l0 t104)) = some (r1, r2, r3) := H
    have A5 := Aside0.mk A50
    clear A50
    have HC6 := Aside0.mk H
    clear H
    go_enter Tryz.func50, Tryz.ntmps50
    go_upto_if 25 with (first | ((with_reducible refine gate_callee (f := 74) rfl ?_); refine goesL_ (some 15) rfl rfl Tryz.func74 (by kernel_rfl) rfl #[.slice A0 l0.length c0, .int .i64 a1] rfl (by (try simp only [List.map_toArray, List.map_cons, List.map_nil]); first | done | rfl | (simp only [List.length_drop, List.length_take]; rfl)) ?_; (with_reducible refine (dobbyref01_End.calls k _ _ l0 a1 t104 t105 _ ?side1 ?side2 A3.out).mono ?_); (case side1 => repeat (first | exact HR0.out | (with_reducible refine Kd.C_alloc ?_ _) | (with_reducible refine Kd.C_drewN ?_ _) | (with_reducible refine Kd.C_drew ?_))); (case side2 => exact HC0.out); rintro e w' ⟨rfl, ⟨nd, rfl⟩⟩; refine ⟨_, rfl, ?_⟩) | ((with_reducible refine gate_callee (f := 75) rfl ?_); refine goesL_ (some 24) rfl rfl Tryz.func75 (by kernel_rfl) rfl #[.int .i64 a1] rfl (by (try simp only [List.map_toArray, List.map_cons, List.map_nil]); first | done | rfl | (simp only [List.length_drop, List.length_take]; rfl)) ?_; (with_reducible refine (dobbyref01_Most.calls a1 t106 _ A5.out).mono ?_); rintro e w' ⟨rfl, ⟨nd, rfl⟩⟩; refine ⟨_, rfl, ?_⟩))
    (try simp only [Act.put, List.setIfInBounds_toArray, List.set_cons_zero, List.set_cons_succ])
    go_cut [] (fun wc => ∃ (kq : Nat), Aside0 (dobbyref01_U.j0 kq l0 t104 = some (r1, r2, r3)) ∧ Aside0 (kq ≤ k) ∧ Drawn0 w wc)
    case first =>
      have H := HC6.out
      clear HC6
      by_cases c7 : t104 = t106
      · rw [if_pos c7] at H
        have c7b0 : (t104 == t106) = true := beq_iff_eq.mpr c7
        have c7b1 : (t104 != t106) = false := bne_eq_false_iff_eq.mpr c7
        clear c7
        (first | rw [c7b0] | (simp only [i64_w, i32_w]; rw [c7b0]) | skip)
        obtain ⟨ji8, hji8⟩ : ∃ j_ : Int, (wrap64 (t104 - 1)) = j_ := ⟨_, rfl⟩
        replace H : (if 0 ≤ (ji8) then (if (ji8) < (l0.length : Int) then (if 0 ≤ (wrap64 (a1 - (wrap64 (7 * (ji8))))) then (if (shr .i64 (wrap64 (rd l0 (ji8))) (wrap64 (a1 - (wrap64 (7 * (ji8)))))) = 0 then (dobbyref01_U.j0 k l0 t104) else (some (0, ji8, 2))) else (none)) else (none)) else (none)) = some (r1, r2, r3) := by first | (rw [hji8] at H; exact H) | (simp only [hji8] at H ⊢; exact H)
        have hji8w : (IntKind.i64.wrap (t104 - 1)) = ji8 := (i64_w _).trans hji8
        by_cases c9 : 0 ≤ (ji8)
        · rw [if_pos c9] at H
          have c9b0 : decide (0 ≤ (ji8)) = true := decide_eq_true c9
          clear c9
          by_cases c10 : (ji8) < (l0.length : Int)
          · rw [if_pos c10] at H
            have c10b0 : decide ((ji8) < (l0.length : Int)) = true := decide_eq_true c10
            clear c10
            obtain ⟨ji11, hji11⟩ : ∃ j_ : Int, (wrap64 (a1 - (wrap64 (7 * (ji8))))) = j_ := ⟨_, rfl⟩
            replace H : (if 0 ≤ (ji11) then (if (shr .i64 (wrap64 (rd l0 (ji8))) (ji11)) = 0 then (dobbyref01_U.j0 k l0 t104) else (some (0, ji8, 2))) else (none)) = some (r1, r2, r3) := by first | (rw [hji11] at H; exact H) | (simp only [hji11] at H ⊢; exact H)
            have hji11w : (IntKind.i64.wrap (a1 - (wrap64 (7 * (ji8))))) = ji11 := (i64_w _).trans hji11
            by_cases c12 : 0 ≤ (ji11)
            · rw [if_pos c12] at H
              have c12b0 := eq_true c12
              have c12b1 : decide (0 ≤ (ji11)) = true := decide_eq_true c12
              clear c12
              obtain ⟨ji13, hji13⟩ : ∃ j_ : Int, (shr .i64 (wrap64 (rd l0 (ji8))) (ji11)) = j_ := ⟨_, rfl⟩
              replace H : (if (ji13) = 0 then (dobbyref01_U.j0 k l0 t104) else (some (0, ji8, 2))) = some (r1, r2, r3) := by first | (rw [hji13] at H; exact H) | (simp only [hji13] at H ⊢; exact H)
              have hji13_ : ((wrap64 (rd l0 (ji8))) / 2 ^ min (ji11).toNat 64) = ji13 := hji13
              have hji13z : (ji11) ≤ 64 → ((wrap64 (rd l0 (ji8))) / 2 ^ (ji11).toNat) = ji13 := shr_small hji13
              by_cases c14 : (ji13) = 0
              · rw [if_pos c14] at H
                have c14b0 : ((ji13) == 0) = true := beq_iff_eq.mpr c14
                have c14b1 : ((ji13) != 0) = false := bne_eq_false_iff_eq.mpr c14
                clear c14
                have H' := Aside0.mk H
                clear H
                have p107 : 0 ≤ ((ji8) : Int) := of_decide_eq_true (by first | (with_reducible assumption) | assumption)
                have q107 : (ji8) < (l0.length : Int) := of_decide_eq_true (by first | (with_reducible assumption) | assumption)
                obtain ⟨ad107, e107, hx107_0⟩ := Kd.at_int HR0.out (ji8) p107 q107
                cases e107
                replace p107 := eq_true p107
                replace q107 := eq_true q107
                go_wp2
                go_meet
                case rel => exact ⟨_, H', ⟨by first | omega | exact Nat.le_refl _⟩, by repeat (first | exact Drawn0.refl _ | apply Drawn0.step)⟩
              · rw [if_neg c14] at H
                have c14b0 : ((ji13) == 0) = false := beq_eq_false_iff_ne.mpr c14
                have c14b1 : ((ji13) != 0) = true := bne_iff_ne.mpr c14
                simp only [Option.some.injEq, Prod.mk.injEq] at H
                obtain ⟨rfl, rfl, rfl⟩ := H
                have p107 : 0 ≤ ((ji8) : Int) := of_decide_eq_true (by first | (with_reducible assumption) | assumption)
                have q107 : (ji8) < (l0.length : Int) := of_decide_eq_true (by first | (with_reducible assumption) | assumption)
                obtain ⟨ad107, e107, hx107_0⟩ := Kd.at_int HR0.out (ji8) p107 q107
                cases e107
                replace p107 := eq_true p107
                replace q107 := eq_true q107
                go_wp2
                go_ret3
                exact ⟨by first | rfl | (simp; done) | (simp only [← hji8, ← hji11, ← hji13] <;> (first | rfl | simp)) | (simp [*]; done), by repeat (first | exact Drawn0.refl _ | apply Drawn0.step)⟩
            · rw [if_neg c12] at H
              exact absurd H (by simp)
          · rw [if_neg c10] at H
            exact absurd H (by simp)
        · rw [if_neg c9] at H
          exact absurd H (by simp)
      · rw [if_neg c7] at H
        have c7b0 : (t104 == t106) = false := beq_eq_false_iff_ne.mpr c7
        have c7b1 : (t104 != t106) = true := bne_iff_ne.mpr c7
        (first | rw [c7b0] | (simp only [i64_w, i32_w]; rw [c7b0]) | skip)
        have H' := Aside0.mk H
        clear H
        go_wp2
        go_meet
        case rel => exact ⟨_, H', ⟨by first | omega | exact Nat.le_refl _⟩, by repeat (first | exact Drawn0.refl _ | apply Drawn0.step)⟩
    case rest =>
      clear HC6
      try clear c1
      try clear p1
      try clear q1
      try clear hx1
      try clear p2
      try clear c4
      try clear c4b0
      try clear c4b1
      try clear c5
      try clear p6
      try clear c7
      try clear c7b0
      try clear c7b1
      try clear c9
      try clear c9b0
      try clear c10
      try clear c10b0
      try clear p10
      try clear q10
      try clear hx10
      try clear c12
      try clear c12b0
      try clear c12b1
      try clear c14
      try clear c14b0
      try clear c14b1
      try clear hx107_0
      try clear p107
      try clear q107
      obtain ⟨kq, HA, HJ5, ⟨mc5, rfl⟩⟩ := hcut
      cases kq with
      | zero => exact absurd HA.out (by simp [dobbyref01_U.j0])
      | succ kj5 =>
        have H := HA.out
        clear HA
        simp only [dobbyref01_U.j0] at H
        have H' := Aside0.mk H
        clear H
        go_wp2
        go_loopg [10, 11] kj5 (fun kq v10 v11 w' => ∃ (x10_2 : Int) (x11_2 : Int), v10 = .int .u64 x10_2 ∧ v11 = .int .i64 x11_2 ∧ Aside0 (dobbyref01_U.l0 kq l0 t104 x10_2 x11_2 = some (r1, r2, r3)) ∧ Aside0 (kq ≤ kj5) ∧ Drawn0 w w')
        case atStart => exact ⟨(0), (wrap64 (t104 - 1)), (by first | rfl | (simp; done) | (simp [*]; done)), (by first | rfl | (simp; done) | (simp [*]; done)), H', ⟨Nat.le_refl _⟩, by repeat (first | exact Drawn0.refl _ | apply Drawn0.step)⟩
        case round =>
          clear H'
          try clear c1
          try clear p1
          try clear q1
          try clear hx1
          try clear p2
          try clear c4
          try clear c4b0
          try clear c4b1
          try clear c5
          try clear p6
          try clear c7
          try clear c7b0
          try clear c7b1
          try clear c9
          try clear c9b0
          try clear c10
          try clear c10b0
          try clear p10
          try clear q10
          try clear hx10
          try clear c12
          try clear c12b0
          try clear c12b1
          try clear c14
          try clear c14b0
          try clear c14b1
          try clear hx107_0
          try clear p1
          try clear p10
          try clear p107
          try clear p2
          try clear p6
          try clear q1
          try clear q10
          try clear q107
          obtain ⟨x10_2, x11_2, rfl, rfl, HA, HK2, ⟨m2, rfl⟩⟩ := hrel
          cases gk with
          | zero => exact absurd HA.out (by simp [dobbyref01_U.l0])
          | succ k2 =>
            have H := HA.out
            clear HA
            simp only [dobbyref01_U.l0] at H
            by_cases c15 : x11_2 ≥ 0
            · rw [if_pos c15] at H
              have c15b0 : decide (0 ≤ x11_2) = true := decide_eq_true c15
              clear c15
              by_cases c16 : 0 ≤ x11_2
              · rw [if_pos c16] at H
                have c16b0 : decide (0 ≤ x11_2) = true := decide_eq_true c16
                clear c16
                by_cases c17 : x11_2 < (l0.length : Int)
                · rw [if_pos c17] at H
                  have c17b0 : decide (x11_2 < (l0.length : Int)) = true := decide_eq_true c17
                  clear c17
                  have H' := Aside0.mk H
                  clear H
                  have p108 : 0 ≤ (x11_2 : Int) := of_decide_eq_true (by first | (with_reducible assumption) | assumption)
                  have q108 : x11_2 < (l0.length : Int) := of_decide_eq_true (by first | (with_reducible assumption) | assumption)
                  obtain ⟨ad108, e108, hx108_0⟩ := Kd.at_int HR0.out x11_2 p108 q108
                  cases e108
                  replace p108 := eq_true p108
                  replace q108 := eq_true q108
                  go_wp2
                  go_roundg k2
                  case measure => have := HJ5.out; have := HK2.out; omega
                  case rel => exact ⟨(IntKind.u64.wrap ((IntKind.u64.wrap (x10_2 * 128)) + (IntKind.u64.wrap (Int.tmod (rd l0 x11_2) 128)))), (wrap64 (x11_2 - 1)), (by first | rfl | (simp; done) | (simp [*]; done)), (by first | rfl | (simp; done) | (simp [*]; done)), H', ⟨by have := HJ5.out; have := HK2.out; omega⟩, by repeat (first | exact Drawn0.refl _ | apply Drawn0.step)⟩
                · rw [if_neg c17] at H
                  exact absurd H (by simp)
              · rw [if_neg c16] at H
                exact absurd H (by simp)
            · rw [if_neg c15] at H
              have c15b0 : decide (0 ≤ x11_2) = false := decide_eq_false c15
              clear c15
              simp only [Option.some.injEq, Prod.mk.injEq] at H
              obtain ⟨rfl, rfl, rfl⟩ := H
              go_wp2
              go_ret3
              exact ⟨by first | rfl | (simp; done) | (simp [*]; done), by repeat (first | exact Drawn0.refl _ | apply Drawn0.step)⟩
  · rw [if_neg c4] at H
    have c4b0 : (t105 == 0) = false := beq_eq_false_iff_ne.mpr c4
    have c4b1 : (t105 != 0) = true := bne_iff_ne.mpr c4
    simp only [Option.some.injEq, Prod.mk.injEq] at H
    obtain ⟨rfl, rfl, rfl⟩ := H
    go_enter Tryz.func50, Tryz.ntmps50
    go_wp2_with (first | ((with_reducible refine gate_callee (f := 74) rfl ?_); refine goesL_ (some 15) rfl rfl Tryz.func74 (by kernel_rfl) rfl #[.slice A0 l0.length c0, .int .i64 a1] rfl (by (try simp only [List.map_toArray, List.map_cons, List.map_nil]); first | done | rfl | (simp only [List.length_drop, List.length_take]; rfl)) ?_; (with_reducible refine (dobbyref01_End.calls k _ _ l0 a1 t104 t105 _ ?side1 ?side2 A3.out).mono ?_); (case side1 => repeat (first | exact HR0.out | (with_reducible refine Kd.C_alloc ?_ _) | (with_reducible refine Kd.C_drewN ?_ _) | (with_reducible refine Kd.C_drew ?_))); (case side2 => exact HC0.out); rintro e w' ⟨rfl, ⟨nd, rfl⟩⟩; refine ⟨_, rfl, ?_⟩))
    go_ret3
    exact ⟨by first | rfl | (simp; done) | (simp [*]; done), by repeat (first | exact Drawn0.refl _ | apply Drawn0.step)⟩
mutual
def dobbyref03_any.l0 : Nat → Int → Int → Int → Int → Int → Int → Option (Bool)
  | 0, _, _, _, _, _, _ => none
  | k + 1, x1, x2, x3, x9, x10, x11 => if x11 < x1 then (dobbyref03_any.l0 k x1 x2 x3 (wrap64 (64 * x9)) (wrap64 ((wrap64 (64 * x10)) + 63)) (wrap64 (x11 + 1))) else (if x9 < x2 then (dobbyref03_any.j1 k x3 x2 x10) else (dobbyref03_any.j1 k x3 x9 x10))
def dobbyref03_any.j1 : Nat → Int → Int → Int → Option (Bool)
  | 0, _, _, _ => none
  | k + 1, x3, x9, x10 => if x10 ≥ x3 then (if x9 ≥ 55296 then (if x9 ≤ 57343 then (some (decide (57344 ≤ (wrap64 (x3 - 1))))) else (some (decide (x9 ≤ (wrap64 (x3 - 1)))))) else (some (decide (x9 ≤ (wrap64 (x3 - 1)))))) else (if x9 ≥ 55296 then (if x9 ≤ 57343 then (some (decide (57344 ≤ x10))) else (some (decide (x9 ≤ x10)))) else (some (decide (x9 ≤ x10))))
end
def dobbyref03_any.f (k : Nat) (a0 : Int) (a1 : Int) (a2 : Int) (a3 : Int) : Option (Bool) := dobbyref03_any.l0 k a1 a2 a3 a0 a0 0
theorem dobbyref03_any.mono_l : ∀ k, (∀ y0 y1 y2 y3 y4 y5, LeO (dobbyref03_any.l0 k y0 y1 y2 y3 y4 y5) (dobbyref03_any.l0 (k + 1) y0 y1 y2 y3 y4 y5)) ∧ (∀ y0 y1 y2, LeO (dobbyref03_any.j1 k y0 y1 y2) (dobbyref03_any.j1 (k + 1) y0 y1 y2))
  | 0 => ⟨fun _ _ _ _ _ _ r h => by simp [dobbyref03_any.l0] at h, fun _ _ _ r h => by simp [dobbyref03_any.j1] at h⟩
  | k + 1 => by
    obtain ⟨ih0, ih1⟩ := dobbyref03_any.mono_l k
    refine ⟨?_, ?_⟩
    · intro y0 y1 y2 y3 y4 y5
      unfold dobbyref03_any.l0
      repeat' first
      | (with_reducible exact ih0 _ _ _ _ _ _)
      | (with_reducible exact ih1 _ _ _)
      | (with_reducible exact LeO.refl _)
      | (with_reducible exact LeO.none _)
      | (with_reducible refine LeO.ite ?_ ?_)
      | (with_reducible refine LeO.bind ?_ (fun _ => ?_))
      | exact ih0 _ _ _ _ _ _
      | exact ih1 _ _ _
      | exact LeO.none _
      | refine LeO.ite ?_ ?_
      | refine LeO.bind ?_ (fun _ => ?_)
    · intro y0 y1 y2
      unfold dobbyref03_any.j1
      repeat' first
      | (with_reducible exact ih0 _ _ _ _ _ _)
      | (with_reducible exact ih1 _ _ _)
      | (with_reducible exact LeO.refl _)
      | (with_reducible exact LeO.none _)
      | (with_reducible refine LeO.ite ?_ ?_)
      | (with_reducible refine LeO.bind ?_ (fun _ => ?_))
      | exact ih0 _ _ _ _ _ _
      | exact ih1 _ _ _
      | exact LeO.none _
      | refine LeO.ite ?_ ?_
      | refine LeO.bind ?_ (fun _ => ?_)
theorem dobbyref03_any.mono : ∀ a0 a1 a2 a3 k, LeO (dobbyref03_any.f k a0 a1 a2 a3) (dobbyref03_any.f (k + 1) a0 a1 a2 a3) := by
  intro a0 a1 a2 a3 k
  obtain ⟨ih0, ih1⟩ := dobbyref03_any.mono_l k
  unfold dobbyref03_any.f
  repeat' first
      | (with_reducible exact ih0 _ _ _ _ _ _)
      | (with_reducible exact ih1 _ _ _)
      | (with_reducible exact LeO.refl _)
      | (with_reducible exact LeO.none _)
      | (with_reducible refine LeO.ite ?_ ?_)
      | (with_reducible refine LeO.bind ?_ (fun _ => ?_))
      | exact ih0 _ _ _ _ _ _
      | exact ih1 _ _ _
      | exact LeO.none _
      | refine LeO.ite ?_ ?_
      | refine LeO.bind ?_ (fun _ => ?_)
set_option maxHeartbeats 8000000 in
set_option maxRecDepth 100000 in
theorem dobbyref03_any.calls (k : Nat) (a0 : Int) (a1 : Int) (a2 : Int) (a3 : Int) (r : Bool) (w : World) (h : dobbyref03_any.f k a0 a1 a2 a3 = some r) :
    Calls Tryz.prog 98 #[.int .i64 a0, .int .i64 a1, .int .i64 a2, .int .i64 a3] w fun e w' => e = .returned (.bool r) ∧ Drawn0 w w' := by
  have H : (dobbyref03_any.l0 k a1 a2 a3 a0 a0 0) = some r := h
  clear h
  have H' := Aside0.mk H
  clear H
  go_enter Tryz.func98, Tryz.ntmps98
  go_wp2
  go_loopg [9, 10, 11] k (fun kq v9 v10 v11 w' => ∃ (x9_1 : Int) (x10_1 : Int) (x11_1 : Int), v9 = .int .i64 x9_1 ∧ v10 = .int .i64 x10_1 ∧ v11 = .int .i64 x11_1 ∧ Aside0 (dobbyref03_any.l0 kq a1 a2 a3 x9_1 x10_1 x11_1 = some r) ∧ Aside0 (kq ≤ k) ∧ Drawn0 w w')
  case atStart => exact ⟨(a0), (a0), (0), (by first | rfl | (simp; done) | (simp [*]; done)), (by first | rfl | (simp; done) | (simp [*]; done)), (by first | rfl | (simp; done) | (simp [*]; done)), H', ⟨Nat.le_refl _⟩, by repeat (first | exact Drawn0.refl _ | apply Drawn0.step)⟩
  case round =>
    clear H'
    try clear p2
    obtain ⟨x9_1, x10_1, x11_1, rfl, rfl, rfl, HA, HK1, ⟨m1, rfl⟩⟩ := hrel
    cases gk with
    | zero => exact absurd HA.out (by simp [dobbyref03_any.l0])
    | succ k1 =>
      have H := HA.out
      clear HA
      simp only [dobbyref03_any.l0] at H
      by_cases c5 : x11_1 < a1
      · rw [if_pos c5] at H
        have c5b0 : decide (x11_1 < a1) = true := decide_eq_true c5
        clear c5
        have H' := Aside0.mk H
        clear H
        go_wp2
        go_roundg k1
        case measure => have := HK1.out; omega
        case rel => exact ⟨(wrap64 (64 * x9_1)), (wrap64 ((wrap64 (64 * x10_1)) + 63)), (wrap64 (x11_1 + 1)), (by first | rfl | (simp; done) | (simp [*]; done)), (by first | rfl | (simp; done) | (simp [*]; done)), (by first | rfl | (simp; done) | (simp [*]; done)), H', ⟨by have := HK1.out; omega⟩, by repeat (first | exact Drawn0.refl _ | apply Drawn0.step)⟩
      · rw [if_neg c5] at H
        have c5b0 : decide (x11_1 < a1) = false := decide_eq_false c5
        clear c5
        have HC6 := Aside0.mk H
        clear H
        go_upto_if 26 with (fail)
        go_cut [9] (fun v9 wc => ∃ (kq : Nat) (x9_5 : Int), v9 = .int .i64 x9_5 ∧ Aside0 (dobbyref03_any.j1 kq a3 x9_5 x10_1 = some r) ∧ Aside0 (kq ≤ k1) ∧ Drawn0 w wc)
        case first =>
          have H := HC6.out
          clear HC6
          by_cases c7 : x9_1 < a2
          · rw [if_pos c7] at H
            have c7b0 : decide (x9_1 < a2) = true := decide_eq_true c7
            clear c7
            (first | rw [c7b0] | (simp only [i64_w, i32_w]; rw [c7b0]) | skip)
            have H' := Aside0.mk H
            clear H
            go_wp2
            go_meet
            case rel => exact ⟨_, (a2), (by first | rfl | (simp; done) | (simp [*]; done)), H', ⟨by have := HK1.out; first | omega | exact Nat.le_refl _⟩, by repeat (first | exact Drawn0.refl _ | apply Drawn0.step)⟩
          · rw [if_neg c7] at H
            have c7b0 : decide (x9_1 < a2) = false := decide_eq_false c7
            clear c7
            (first | rw [c7b0] | (simp only [i64_w, i32_w]; rw [c7b0]) | skip)
            have H' := Aside0.mk H
            clear H
            go_wp2
            go_meet
            case rel => exact ⟨_, (x9_1), (by first | rfl | (simp; done) | (simp [*]; done)), H', ⟨by have := HK1.out; first | omega | exact Nat.le_refl _⟩, by repeat (first | exact Drawn0.refl _ | apply Drawn0.step)⟩
        case rest =>
          clear HC6
          try clear p2
          try clear c5
          try clear c5b0
          try clear p6
          try clear c7
          try clear c7b0
          try clear p2
          obtain ⟨kq, x9_5, rfl, HA, HJ5, ⟨mc5, rfl⟩⟩ := hcut
          cases kq with
          | zero => exact absurd HA.out (by simp [dobbyref03_any.j1])
          | succ kj5 =>
            have H := HA.out
            clear HA
            simp only [dobbyref03_any.j1] at H
            by_cases c8 : x10_1 ≥ a3
            · rw [if_pos c8] at H
              have c8b0 : decide (a3 ≤ x10_1) = true := decide_eq_true c8
              clear c8
              by_cases c9 : x9_5 ≥ 55296
              · rw [if_pos c9] at H
                have c9b0 : decide (55296 ≤ x9_5) = true := decide_eq_true c9
                clear c9
                by_cases c10 : x9_5 ≤ 57343
                · rw [if_pos c10] at H
                  have c10b0 : decide (x9_5 ≤ 57343) = true := decide_eq_true c10
                  clear c10
                  obtain rfl := Option.some.inj H
                  go_wp2
                  go_ret
                  exact ⟨by first | rfl | (simp; done) | (simp [*]; done), by repeat (first | exact Drawn0.refl _ | apply Drawn0.step)⟩
                · rw [if_neg c10] at H
                  have c10b0 : decide (x9_5 ≤ 57343) = false := decide_eq_false c10
                  clear c10
                  obtain rfl := Option.some.inj H
                  go_wp2
                  go_ret
                  exact ⟨by first | rfl | (simp; done) | (simp [*]; done), by repeat (first | exact Drawn0.refl _ | apply Drawn0.step)⟩
              · rw [if_neg c9] at H
                have c9b0 : decide (55296 ≤ x9_5) = false := decide_eq_false c9
                clear c9
                obtain rfl := Option.some.inj H
                go_wp2
                go_ret
                exact ⟨by first | rfl | (simp; done) | (simp [*]; done), by repeat (first | exact Drawn0.refl _ | apply Drawn0.step)⟩
            · rw [if_neg c8] at H
              have c8b0 : decide (a3 ≤ x10_1) = false := decide_eq_false c8
              clear c8
              by_cases c11 : x9_5 ≥ 55296
              · rw [if_pos c11] at H
                have c11b0 : decide (55296 ≤ x9_5) = true := decide_eq_true c11
                clear c11
                by_cases c12 : x9_5 ≤ 57343
                · rw [if_pos c12] at H
                  have c12b0 : decide (x9_5 ≤ 57343) = true := decide_eq_true c12
                  clear c12
                  obtain rfl := Option.some.inj H
                  go_wp2
                  go_ret
                  exact ⟨by first | rfl | (simp; done) | (simp [*]; done), by repeat (first | exact Drawn0.refl _ | apply Drawn0.step)⟩
                · rw [if_neg c12] at H
                  have c12b0 : decide (x9_5 ≤ 57343) = false := decide_eq_false c12
                  clear c12
                  obtain rfl := Option.some.inj H
                  go_wp2
                  go_ret
                  exact ⟨by first | rfl | (simp; done) | (simp [*]; done), by repeat (first | exact Drawn0.refl _ | apply Drawn0.step)⟩
              · rw [if_neg c11] at H
                have c11b0 : decide (55296 ≤ x9_5) = false := decide_eq_false c11
                clear c11
                obtain rfl := Option.some.inj H
                go_wp2
                go_ret
                exact ⟨by first | rfl | (simp; done) | (simp [*]; done), by repeat (first | exact Drawn0.refl _ | apply Drawn0.step)⟩
def dobbyref03_Is.f (a0 : Int) : Option (Bool) := if a0 ≥ 0 then (if a0 ≤ 1114111 then (if a0 < 55296 then (some true) else (some (decide (a0 > 57343)))) else (some false)) else (some false)
set_option maxHeartbeats 8000000 in
set_option maxRecDepth 100000 in
theorem dobbyref03_Is.calls (a0 : Int) (r : Bool) (w : World) (h : dobbyref03_Is.f a0 = some r) :
    Calls Tryz.prog 99 #[.int .i64 a0] w fun e w' => e = .returned (.bool r) ∧ Drawn0 w w' := by
  have H : (if a0 ≥ 0 then (if a0 ≤ 1114111 then (if a0 < 55296 then (some true) else (some (decide (a0 > 57343)))) else (some false)) else (some false)) = some r := h
  clear h
  by_cases c2 : a0 ≥ 0
  · rw [if_pos c2] at H
    have c2b0 : decide (0 ≤ a0) = true := decide_eq_true c2
    clear c2
    by_cases c3 : a0 ≤ 1114111
    · rw [if_pos c3] at H
      have c3b0 : decide (a0 ≤ 1114111) = true := decide_eq_true c3
      clear c3
      by_cases c4 : a0 < 55296
      · rw [if_pos c4] at H
        have c4b0 : decide (a0 < 55296) = true := decide_eq_true c4
        clear c4
        obtain rfl := Option.some.inj H
        go_enter Tryz.func99, Tryz.ntmps99
        go_wp2
        go_ret
        exact ⟨by first | rfl | (simp; done) | (simp [*]; done), by repeat (first | exact Drawn0.refl _ | apply Drawn0.step)⟩
      · rw [if_neg c4] at H
        have c4b0 : decide (a0 < 55296) = false := decide_eq_false c4
        clear c4
        obtain rfl := Option.some.inj H
        go_enter Tryz.func99, Tryz.ntmps99
        go_wp2
        go_ret
        exact ⟨by first | rfl | (simp; done) | (simp [*]; done), by repeat (first | exact Drawn0.refl _ | apply Drawn0.step)⟩
    · rw [if_neg c3] at H
      have c3b0 : decide (a0 ≤ 1114111) = false := decide_eq_false c3
      clear c3
      obtain rfl := Option.some.inj H
      go_enter Tryz.func99, Tryz.ntmps99
      go_wp2
      go_ret
      exact ⟨by first | rfl | (simp; done) | (simp [*]; done), by repeat (first | exact Drawn0.refl _ | apply Drawn0.step)⟩
  · rw [if_neg c2] at H
    have c2b0 : decide (0 ≤ a0) = false := decide_eq_false c2
    clear c2
    obtain rfl := Option.some.inj H
    go_enter Tryz.func99, Tryz.ntmps99
    go_wp2
    go_ret
    exact ⟨by first | rfl | (simp; done) | (simp [*]; done), by repeat (first | exact Drawn0.refl _ | apply Drawn0.step)⟩
end Go.Proofs.YtiohiiekaofkbaaGreatDoor.PNamesReads
/- The document's reader: its numbers. dobbyref01.U by its printed form; plain. -/
namespace Go.Proofs.YtiohiiekaofkbaaGreatDoor
set_option linter.unusedVariables false
set_option linter.unusedSimpArgs false
open Go.RowKit Go.Proofs.YtiohiiekaofkbaaGreatDoor.PNamesReads Go.Proofs.YtiohiiekaofkbaaGreatDoorW.PrintWords Go.Proofs.YtiohiiekaofkbaaGreatDoorW.PrintLast Go.Proofs.YtiohiiekaofkbaaGreatDoorW.PrintMore
def cut : Nat → List Int → Option (List Int × List Int)
  | 0, _ => none
  | _ + 1, [] => none
  | k + 1, x :: t => if x < 128 then some ([x], t) else match cut k t with | none => none | some (N, r) => some (x :: N, r)
def numL (l : List Int) : Option (Int × List Int) := match cut 5 l with | none => none | some (N, r) => if 4294967296 ≤ val N then none else some (val N, r)
theorem cut_dig : ∀ (k : Nat) (l N r : List Int), (∀ x ∈ l, 0 ≤ x ∧ x < 256) → cut k l = some (N, r) → l = N ++ r ∧ N.length ≤ k ∧ ∃ D y, Digits N D y := by
  intro k
  induction k with
  | zero => intro l N r _ h; cases h
  | succ k ih =>
    intro l N r h8 h
    cases l with
    | nil => cases h
    | cons x t =>
      simp only [cut] at h
      have hx := h8 x (by simp)
      split at h
      · rename_i hlt
        simp only [Option.some.injEq, Prod.mk.injEq] at h
        obtain ⟨rfl, rfl⟩ := h
        exact ⟨rfl, by simp, [], x, rfl, by simp, hx.1, hlt⟩
      · rename_i hge
        rcases hc : cut k t with _ | ⟨M, q⟩
        · rw [hc] at h; cases h
        · rw [hc] at h
          simp only [Option.some.injEq, Prod.mk.injEq] at h
          obtain ⟨rfl, rfl⟩ := h
          obtain ⟨a, b, D, y, e, hD, y0, y1⟩ := ih t M q (fun z hz => h8 z (by simp [hz])) hc
          refine ⟨by rw [a]; rfl, by simp; omega, x :: D, y, by rw [e]; rfl, fun z hz => ?_, y0, y1⟩
          rcases List.mem_cons.1 hz with rfl | hz
          · exact ⟨by omega, hx.2⟩
          · exact hD z hz
theorem cut_of : ∀ (D : List Int) (y : Int) (k : Nat) (r : List Int), (∀ z ∈ D, 128 ≤ z ∧ z < 256) → y < 128 → D.length < k → cut k (D ++ [y] ++ r) = some (D ++ [y], r) := by
  intro D
  induction D with
  | nil =>
    intro y k r _ hy hk
    obtain ⟨k, rfl⟩ : ∃ m, k = m + 1 := ⟨k - 1, by simp at hk; omega⟩
    simp only [List.nil_append, List.cons_append, cut]
    rw [if_pos hy]
  | cons d D ih =>
    intro y k r hD hy hk
    obtain ⟨k, rfl⟩ : ∃ m, k = m + 1 := ⟨k - 1, by simp at hk; omega⟩
    have hd := hD d (by simp)
    simp only [List.cons_append, cut]
    rw [if_neg (by omega), ih y k r (fun z hz => hD z (by simp [hz])) hy (by simp at hk; omega)]
theorem numL_put {l r : List Int} {v : Int} (h8 : ∀ x ∈ l, 0 ≤ x ∧ x < 256) (h : numL l = some (v, r)) : ∃ N, l = N ++ r ∧ Enc N v := by
  unfold numL at h
  rcases hc : cut 5 l with _ | ⟨N, q⟩
  · rw [hc] at h; cases h
  · rw [hc] at h
    simp only at h
    split at h
    · cases h
    · rename_i hv
      simp only [Option.some.injEq, Prod.mk.injEq] at h
      obtain ⟨rfl, rfl⟩ := h
      obtain ⟨a, b, c⟩ := cut_dig 5 l N q h8 hc
      exact ⟨N, a, c, rfl, b, (val_lt N).1, by omega⟩
theorem numL_read {N : List Int} {v : Int} (h : Enc N v) (r : List Int) : numL (N ++ r) = some (v, r) := by
  obtain ⟨D, y, e, hD, y0, y1⟩ := h.dig
  have hl := h.len
  unfold numL
  subst e
  rw [cut_of D y 5 r hD y1 (by simp at hl; omega)]
  simp only
  rw [h.val, if_neg (by have := h.v1; omega)]
theorem numL_rest {l r : List Int} {v : Int} (h8 : ∀ x ∈ l, 0 ≤ x ∧ x < 256) (h : numL l = some (v, r)) : 0 ≤ v ∧ v ≤ 4294967295 ∧ r.length < l.length ∧ ∀ x ∈ r, 0 ≤ x ∧ x < 256 := by
  obtain ⟨N, e, hN⟩ := numL_put h8 h
  have := hN.pos
  exact ⟨hN.v0, hN.v1, by rw [e, List.length_append]; omega, fun x hx => h8 x (by rw [e]; simp [hx])⟩
theorem cut_take : ∀ (k : Nat) (l : List Int), (cut k (l.take k)).map Prod.fst = (cut k l).map Prod.fst := by
  intro k
  induction k with
  | zero => intro l; rfl
  | succ k ih =>
    intro l
    cases l with
    | nil => rfl
    | cons x t =>
      rw [List.take_succ_cons]
      simp only [cut]
      split
      · rfl
      · have := ih t
        rcases h1 : cut k (t.take k) with _ | ⟨N, r⟩ <;> rcases h2 : cut k t with _ | ⟨M, q⟩
        · rfl
        · rw [h1, h2] at this; cases this
        · rw [h1, h2] at this; cases this
        · rw [h1, h2] at this
          simp only [Option.map_some, Option.some.injEq] at this ⊢
          rw [this]
theorem most32 : dobbyref01_Most.f 32 = some 5 := by kernel_rfl
theorem rd_at {l : List Int} {i : Nat} (h : i < l.length) : rd l (i : Int) = l[i] := by
  unfold rd
  simp [h]
theorem end_some (l : List Int) (h5 : l.length ≤ 5) : ∀ (d i k : Nat), i + d = 5 → i ≤ l.length → d < k →
    match cut d (l.drop i) with
    | some (N, _) => dobbyref01_End.l0 k l 32 i = some (((i + N.length : Nat) : Int), 0)
    | none => ∃ n e : Int, e ≠ 0 ∧ dobbyref01_End.l0 k l 32 i = some (n, e) := by
  intro d
  induction d with
  | zero =>
    intro i k hi hl hk
    obtain ⟨k, rfl⟩ : ∃ m, k = m + 1 := ⟨k - 1, by omega⟩
    simp only [cut]
    simp only [dobbyref01_End.l0, most32, Option.bind_some]
    rw [if_neg (by omega)]
    exact ⟨_, _, by decide, rfl⟩
  | succ d ih =>
    intro i k hi hl hk
    obtain ⟨k, rfl⟩ : ∃ m, k = m + 1 := ⟨k - 1, by omega⟩
    rcases Nat.lt_or_ge i l.length with hlt | hge
    · rw [List.drop_eq_getElem_cons hlt]
      simp only [cut]
      have e0 : dobbyref01_End.l0 (k + 1) l 32 i = if l[i] < 128 then some (wrap64 ((i : Int) + 1), 0) else dobbyref01_End.l0 k l 32 (wrap64 ((i : Int) + 1)) := by
        simp only [dobbyref01_End.l0, most32, Option.bind_some]
        rw [if_pos (by omega), if_neg (by omega), if_pos (by omega), if_pos (by omega), rd_at hlt]
      have ew : wrap64 ((i : Int) + 1) = ((i + 1 : Nat) : Int) := by unfold wrap64; omega
      rw [e0, ew]
      by_cases hx : l[i] < 128
      · rw [if_pos hx, if_pos hx]
        rfl
      · rw [if_neg hx, if_neg hx]
        have := ih (i + 1) k (by omega) (by omega) (by omega)
        rcases hc : cut d (l.drop (i + 1)) with _ | ⟨N, r⟩
        · rw [hc] at this
          exact this
        · rw [hc] at this
          simp only [List.length_cons] at this ⊢
          rw [this, show i + 1 + N.length = i + (N.length + 1) by omega]
    · rw [List.drop_eq_nil_of_le hge]
      simp only [cut]
      refine ⟨(l.length : Int), 1, by decide, ?_⟩
      simp only [dobbyref01_End.l0, most32, Option.bind_some]
      rw [if_pos (by omega), if_pos (by omega)]
theorem val_at {N : List Int} {i : Nat} (h : i < N.length) : val (N.drop i) = N[i] % 128 + 128 * val (N.drop (i + 1)) := by
  rw [List.drop_eq_getElem_cons h, val]
theorem sum_some (l N r : List Int) (h8 : ∀ x ∈ l, 0 ≤ x ∧ x < 256) (e : l = N ++ r) (h5 : N.length ≤ 5) : ∀ (i k : Nat), i ≤ N.length → i < k →
    dobbyref01_U.l0 k l N.length (val (N.drop i)) ((i : Int) - 1) = some (val N, (N.length : Int), 0) := by
  intro i
  induction i with
  | zero =>
    intro k _ hk
    obtain ⟨k, rfl⟩ : ∃ m, k = m + 1 := ⟨k - 1, by omega⟩
    simp only [dobbyref01_U.l0]
    rw [if_neg (by omega)]
    rfl
  | succ i ih =>
    intro k hi hk
    obtain ⟨k, rfl⟩ : ∃ m, k = m + 1 := ⟨k - 1, by omega⟩
    have hil : i < l.length := by rw [e, List.length_append]; omega
    have hNi : l[i] = N[i] := by simp only [e]; rw [List.getElem_append_left (by omega)]
    have hx := h8 _ (List.getElem_mem hil)
    have hv := val_at (N := N) (i := i) (by omega)
    have hb := val_lt (N.drop (i + 1))
    have hp : (128 : Int) ^ (N.drop (i + 1)).length ≤ 128 ^ 4 := by
      have : (N.drop (i + 1)).length ≤ 4 := by rw [List.length_drop]; omega
      exact_mod_cast Nat.pow_le_pow_right (show 0 < 128 by decide) this
    have hq : (128 : Int) ^ 4 = 268435456 := by decide
    rw [hq] at hp
    have ht : Int.tmod l[i] 128 = l[i] % 128 := Int.tmod_eq_emod_of_nonneg hx.1
    simp only [dobbyref01_U.l0]
    rw [if_pos (by omega), if_pos (by omega), if_pos (by omega), show ((i + 1 : Nat) : Int) - 1 = (i : Int) by omega, rd_at hil, ht, hNi, wu, wu, wu]
    rw [show (val (N.drop (i + 1)) * 128 % 18446744073709551616 + N[i] % 128 % 18446744073709551616) % 18446744073709551616 = val (N.drop i) by rw [hv]; omega, show wrap64 ((i : Int) - 1) = (i : Int) - 1 by unfold wrap64; omega]
    exact ih k (by omega) (by omega)
theorem u_some (l : List Int) (h8 : ∀ x ∈ l, 0 ≤ x ∧ x < 256) (h5 : l.length ≤ 5) :
    match cut 5 l with
    | some (N, _) => if 4294967296 ≤ val N then ∃ n e : Int, e ≠ 0 ∧ dobbyref01_U.f 10 l 32 = some (0, n, e) else dobbyref01_U.f 10 l 32 = some (val N, (N.length : Int), 0)
    | none => ∃ n e : Int, e ≠ 0 ∧ dobbyref01_U.f 10 l 32 = some (0, n, e) := by
  have hE := end_some l h5 5 0 10 rfl (Nat.zero_le _) (by decide)
  rw [List.drop_zero] at hE
  rcases hc : cut 5 l with _ | ⟨N, r⟩
  · rw [hc] at hE
    obtain ⟨n, e, he, hl⟩ := hE
    refine ⟨n, e, he, ?_⟩
    show (dobbyref01_End.l0 10 l 32 0).bind _ = _
    rw [show ((0 : Nat) : Int) = 0 from rfl] at hl
    rw [hl, Option.bind_some]
    simp only
    rw [if_neg he]
  · rw [hc] at hE
    simp only [Nat.zero_add] at hE
    rw [show ((0 : Nat) : Int) = 0 from rfl] at hE
    obtain ⟨e, hn, D, y, eN, hD, y0, y1⟩ := cut_dig 5 l N r h8 hc
    have hpos : 1 ≤ N.length := by rw [eN]; simp
    have hf : dobbyref01_U.f 10 l 32 = (dobbyref01_End.l0 10 l 32 0).bind fun bt104 => (if bt104.2 = 0 then ((dobbyref01_Most.f 32).bind fun t106 => (if bt104.1 = t106 then (if 0 ≤ (wrap64 (bt104.1 - 1)) then (if (wrap64 (bt104.1 - 1)) < (l.length : Int) then (if 0 ≤ (wrap64 (32 - (wrap64 (7 * (wrap64 (bt104.1 - 1)))))) then (if (shr .i64 (wrap64 (rd l (wrap64 (bt104.1 - 1)))) (wrap64 (32 - (wrap64 (7 * (wrap64 (bt104.1 - 1))))))) = 0 then (dobbyref01_U.j0 10 l bt104.1) else (some (0, wrap64 (bt104.1 - 1), 2))) else (none)) else (none)) else (none)) else (dobbyref01_U.j0 10 l bt104.1))) else (some (0, bt104.1, bt104.2))) := rfl
    have hs : dobbyref01_U.j0 10 l N.length = some (val N, (N.length : Int), 0) := by
      have := sum_some l N r h8 e hn N.length 9 (Nat.le_refl _) (by omega)
      rw [List.drop_length] at this
      simp only [dobbyref01_U.j0]
      rw [show wrap64 ((N.length : Int) - 1) = (N.length : Int) - 1 by unfold wrap64; omega]
      exact this
    have hU : dobbyref01_U.f 10 l 32 = if 4294967296 ≤ val N then some (0, 4, 2) else some (val N, (N.length : Int), 0) := by
      rw [hf, hE, Option.bind_some]
      simp only
      rw [if_pos trivial, most32, Option.bind_some]
      by_cases h5' : N.length = 5
      · have hl4 : 4 < l.length := by rw [e, List.length_append]; omega
        have hD4 : D.length = 4 := by rw [eN] at h5'; simp at h5'; omega
        have h4 : l[4] = y := by
          simp only [e, eN]
          rw [List.getElem_append_left (by simp; omega), List.getElem_append_right (by omega)]
          simp [hD4]
        have hv : val N = val D + y * 268435456 := by
          rw [eN, val_app, hD4, show y % 128 = y by omega]; rfl
        have hb := val_lt D
        rw [hD4, show (128 : Int) ^ 4 = 268435456 by decide] at hb
        have w4 : wrap64 ((N.length : Int) - 1) = ((4 : Nat) : Int) := by unfold wrap64; omega
        have w7 : wrap64 (32 - wrap64 (7 * ((4 : Nat) : Int))) = 4 := by unfold wrap64; omega
        rw [if_pos (show (N.length : Int) = 5 by omega), w4, w7, if_pos (show (0 : Int) ≤ ((4 : Nat) : Int) by omega), if_pos (show ((4 : Nat) : Int) < (l.length : Int) by omega), if_pos (show (0 : Int) ≤ 4 by omega), rd_at hl4, h4]
        have hsh : shr .i64 (wrap64 y) 4 = y / 16 := by
          have : wrap64 y = y := by unfold wrap64; omega
          rw [this]
          unfold shr
          rw [show min (4 : Int).toNat IntKind.i64.bits = 4 by decide, show (2 : Int) ^ 4 = 16 by decide]
        rw [hsh]
        by_cases hy : y < 16
        · rw [if_pos (show y / 16 = 0 by omega), if_neg (by omega)]
          exact hs
        · rw [if_neg (show ¬ y / 16 = 0 by omega), if_pos (by omega)]
          rfl
      · have hb := val_lt N
        have hp : (128 : Int) ^ N.length ≤ 128 ^ 4 := by
          exact_mod_cast Nat.pow_le_pow_right (show 0 < 128 by decide) (show N.length ≤ 4 by omega)
        rw [show (128 : Int) ^ 4 = 268435456 by decide] at hp
        rw [if_neg (show ¬ (N.length : Int) = 5 by omega), if_neg (by omega)]
        exact hs
    rw [hU]
    simp only
    split
    · exact ⟨_, _, by decide, rfl⟩
    · rfl
end Go.Proofs.YtiohiiekaofkbaaGreatDoor
/- Do the indexes of a list of names, of locals rise: names.rises; what is true of all: slices.ContainsFunc. -/
namespace Go.Proofs.YtiohiiekaofkbaaGreatDoor
set_option linter.unusedVariables false
set_option linter.unusedSimpArgs false
open Go.RowKit Go.Proofs.YtiohiiekaofkbaaGreatDoor.PNamesReads Go.Proofs.YtiohiiekaofkbaaGreatDoorW.PrintWords
def allB (p : Nat → Bool) : Nat → Bool
  | 0 => true
  | n + 1 => allB p n && p n
theorem allB_iff {p : Nat → Bool} {n : Nat} : allB p n = true ↔ ∀ i, i < n → p i = true := by
  induction n with
  | zero => simp [allB]
  | succ n ih =>
    simp only [allB, Bool.and_eq_true, ih]
    constructor
    · rintro ⟨h1, h2⟩ i hi
      by_cases e : i = n
      · exact e ▸ h2
      · exact h1 i (by omega)
    · exact fun h => ⟨fun i hi => h i (by omega), h n (by omega)⟩
theorem allB_not {p : Nat → Bool} {n i : Nat} (hi : i < n) (h : p i = false) : allB p n = false := by
  rcases hb : allB p n with _ | _
  · rfl
  · rw [allB_iff.1 hb i hi] at h; cases h
def upB (f : Nat → Int) (i : Nat) : Bool := decide (i = 0) || decide (f (i - 1) < f i)
def nIdx (l : List S149) (i : Nat) : Int := (rd_T149 l i).f0
def lIdx (l : List S90) (i : Nat) : Int := (rd_T90 l i).f0
theorem nIdx_up (l : List S149) (j : Nat) : upB (nIdx l) (j + 1) = decide ((rd_T149 l (j : Int)).f0 < (rd_T149 l ((j : Int) + 1)).f0) := by unfold upB; rw [show decide (j + 1 = 0) = false from by simp, Bool.false_or]; rfl
theorem lIdx_up (l : List S90) (j : Nat) : upB (lIdx l) (j + 1) = decide ((rd_T90 l (j : Int)).f0 < (rd_T90 l ((j : Int) + 1)).f0) := by unfold upB; rw [show decide (j + 1 = 0) = false from by simp, Bool.false_or]; rfl
set_option maxHeartbeats 1000000 in
theorem ofName_walk (a : Int) (s : ByteArray) (w : World) : Calls Tryz.prog 94 #[.agg #[.int .u32 a, .string s]] w fun e w' => e = .returned (.int .u32 a) ∧ Below w.heap.size w w' := by
  have hu := Tryz.underlying149
  go_enter Tryz.func94, Tryz.ntmps94
  go_wp2
  go_ret
  exact ⟨rfl, bel⟩
set_option maxHeartbeats 1000000 in
theorem ofLocal_walk (a : Int) (v : Value) (w : World) : Calls Tryz.prog 79 #[.agg #[.int .u32 a, v]] w fun e w' => e = .returned (.int .u32 a) ∧ Below w.heap.size w w' := by
  have hu := Tryz.underlying90
  go_enter Tryz.func79, Tryz.ntmps79
  go_wp2
  go_ret
  exact ⟨rfl, bel⟩
theorem keep4 {p1 p2 p3 p4 : Addr} {a b c d : Value} {w W W' : World} {B : Nat} (h : W.cell? p1 = some a ∧ W.cell? p2 = some b ∧ W.cell? p3 = some c ∧ W.cell? p4 = some d ∧ Below B w W ∧ B ≤ W.heap.size)
    (hb : Below W.heap.size W W') : W'.cell? p1 = some a ∧ W'.cell? p2 = some b ∧ W'.cell? p3 = some c ∧ W'.cell? p4 = some d ∧ Below B w W' ∧ B ≤ W'.heap.size := by
  obtain ⟨h1, h2, h3, h4, h5, h6⟩ := h
  exact ⟨pw_cell_below hb h1, pw_cell_below hb h2, pw_cell_below hb h3, pw_cell_below hb h4, h5.trans (hb.mono h6), Nat.le_trans h6 hb.size⟩
set_option maxRecDepth 100000 in
set_option maxHeartbeats 4000000 in
theorem risesName_walk (A : Option Addr) (c : Nat) (l : List S149) (w : World) (hC : Kd.C k149 w A l.length l) (hlen : l.length ≤ 1000000000) :
    Calls Tryz.prog 93 #[.slice A l.length c, .func (.func 94) #[] #[]] w fun e w' => e = .returned (.bool (allB (upB (nIdx l)) l.length)) ∧ Below w.heap.size w w' := by
  have hu := Tryz.underlying149
  have HC := hid hC
  clear hC
  go_enter Tryz.func93, Tryz.ntmps93
  go_wp2
  go_loopw [5] (fun v5 wr => ∃ i : Nat, v5 = .int .i64 i ∧ 1 ≤ i ∧ i ≤ l.length + 1 ∧ Hid (allB (upB (nIdx l)) i = true) ∧ w.heap.size ≤ wr.heap.size ∧ Hid (Below w.heap.size w wr)) (fun v5 _ => l.length + 1 - (intOf v5).toNat)
  case atStart => exact ⟨1, by go_num, by omega, by omega, hid (by simp [allB, upB]), Nat.le_refl _, Below.refl _ _⟩
  case round =>
    obtain ⟨i, rfl, hi0, hi1, HA, hsz, HB⟩ := hrel
    by_cases hlt : i < l.length
    · obtain ⟨j, rfl⟩ : ∃ j, i = j + 1 := ⟨i - 1, by omega⟩
      have hcr := Kd.C_below HC.out HB.out
      obtain ⟨ad, rfl, e1, e2⟩ := at_T149 hcr ((j + 1 : Nat) : Int) (by omega) (by omega)
      obtain ⟨ad', he, e3, e4⟩ := at_T149 hcr (j : Int) (by omega) (by omega)
      obtain rfl := Option.some.inj he
      rw [Int.toNat_natCast] at e1 e2 e3 e4
      clear he hcr
      have hi3 : (j : Int) + 1 < (l.length : Int) := by omega
      have hi4 : (j : Int) < (l.length : Int) := by omega
      have hi5 : (0 : Int) ≤ (j : Int) + 1 := by omega
      have hw1 : IntKind.i64.wrap ((j : Int) + 1 - 1) = (j : Int) := by rw [IntKind.wrap_i64]; omega
      have hw2 : IntKind.i64.wrap (j : Int) = (j : Int) := by rw [IntKind.wrap_i64]; omega
      rw [show (((j + 1 : Nat) : Int)) = (j : Int) + 1 by omega] at e1 e2
      go_upto_region 4 with (fail)
      go_cut [25] (fun s25 wx => s25 = .bool (decide ((rd_T149 l (j + 1)).f0 ≤ (rd_T149 l j).f0)) ∧ w.heap.size ≤ wx.heap.size ∧ Hid (Below w.heap.size w wx))
      case first =>
        have S0 : wr.cell? (ad.add ((j + 1) * 2)) = some (.int .u32 (rd_T149 l (j + 1)).f0) ∧ wr.cell? ⟨(ad.add ((j + 1) * 2)).block, (ad.add ((j + 1) * 2)).off + 1, none⟩ = some (.string (rd_T149 l (j + 1)).f1) ∧ wr.cell? (ad.add (j * 2)) = some (.int .u32 (rd_T149 l j).f0) ∧ wr.cell? ⟨(ad.add (j * 2)).block, (ad.add (j * 2)).off + 1, none⟩ = some (.string (rd_T149 l j).f1) ∧ Below w.heap.size w wr ∧ w.heap.size ≤ wr.heap.size := ⟨e1, e2, e3, e4, HB.out, hsz⟩
        clear e1 e2 e3 e4
        go_region_held3 (fun w' => w'.cell? (ad.add ((j + 1) * 2)) = some (.int .u32 (rd_T149 l (j + 1)).f0) ∧ w'.cell? ⟨(ad.add ((j + 1) * 2)).block, (ad.add ((j + 1) * 2)).off + 1, none⟩ = some (.string (rd_T149 l (j + 1)).f1) ∧ w'.cell? (ad.add (j * 2)) = some (.int .u32 (rd_T149 l j).f0) ∧ w'.cell? ⟨(ad.add (j * 2)).block, (ad.add (j * 2)).off + 1, none⟩ = some (.string (rd_T149 l j).f1) ∧ Below w.heap.size w w' ∧ w.heap.size ≤ w'.heap.size)
          (first | exact S0 | exact keep4 (by assumption) (by assumption) | exact keep4 (by assumption) (below_drew (Below.refl _ _)))
          (first | (go_at_call 94; refine (ofName_walk _ _ _).mono ?_; rintro e w' ⟨rfl, hb1⟩))
        all_goals (go_wp2_with fail)
        all_goals (go_meet)
        all_goals (refine ⟨rfl, ?_, ?_⟩ <;> first | exact (‹_ ∧ _ ∧ _ ∧ _ ∧ _ ∧ _›).2.2.2.2.2 | exact hid (‹_ ∧ _ ∧ _ ∧ _ ∧ _ ∧ _›).2.2.2.2.1)
      case rest =>
        obtain ⟨rfl, hsx, HX⟩ := hcut
        by_cases hup : (rd_T149 l (j + 1)).f0 ≤ (rd_T149 l j).f0
        · have HP := hid hup
          go_wp2
          go_ret
          refine ⟨ret_bool ?_, HX.out⟩
          exact (allB_not hlt (by rw [nIdx_up]; exact decide_eq_false (by have := HP.out; omega))).symm
        · have HP := hid hup
          have hup2 : (rd_T149 l j).f0 < (rd_T149 l (j + 1)).f0 := by omega
          go_wp2
          go_roundw
          case rel => exact ⟨j + 2, by go_num, by omega, by omega, hid (by rw [allB, HA.out, Bool.true_and, nIdx_up]; exact decide_eq_true (by have := HP.out; omega)), hsx, HX⟩
          case measure => simp [intOf]; omega
    · go_wp2
      go_ret
      refine ⟨ret_bool ?_, HB.out⟩
      have e := HA.out
      rcases (show i = l.length ∨ i = l.length + 1 by omega) with rfl | rfl
      · exact e.symm
      · rw [allB, Bool.and_eq_true] at e; exact e.1.symm
set_option maxRecDepth 100000 in
set_option maxHeartbeats 4000000 in
theorem risesLocal_walk (A : Option Addr) (c : Nat) (l : List S90) (w : World) (hC : Kd.C k90 w A l.length l) (hlen : l.length ≤ 1000000000) :
    Calls Tryz.prog 78 #[.slice A l.length c, .func (.func 79) #[] #[]] w fun e w' => e = .returned (.bool (allB (upB (lIdx l)) l.length)) ∧ Below w.heap.size w w' := by
  have hu := Tryz.underlying90
  have HC := hid hC
  clear hC
  go_enter Tryz.func78, Tryz.ntmps78
  go_wp2
  go_loopw [5] (fun v5 wr => ∃ i : Nat, v5 = .int .i64 i ∧ 1 ≤ i ∧ i ≤ l.length + 1 ∧ Hid (allB (upB (lIdx l)) i = true) ∧ w.heap.size ≤ wr.heap.size ∧ Hid (Below w.heap.size w wr)) (fun v5 _ => l.length + 1 - (intOf v5).toNat)
  case atStart => exact ⟨1, by go_num, by omega, by omega, hid (by simp [allB, upB]), Nat.le_refl _, Below.refl _ _⟩
  case round =>
    obtain ⟨i, rfl, hi0, hi1, HA, hsz, HB⟩ := hrel
    by_cases hlt : i < l.length
    · obtain ⟨j, rfl⟩ : ∃ j, i = j + 1 := ⟨i - 1, by omega⟩
      have hcr := Kd.C_below HC.out HB.out
      obtain ⟨ad, A1, c1, rfl, e1, e2, l1, g1⟩ := at_T90 hcr ((j + 1 : Nat) : Int) (by omega) (by omega)
      obtain ⟨ad', A2, c2, he, e3, e4, l2, g2⟩ := at_T90 hcr (j : Int) (by omega) (by omega)
      obtain rfl := Option.some.inj he
      rw [Int.toNat_natCast] at e1 e2 e3 e4
      clear he hcr l1 g1 l2 g2
      have hi3 : (j : Int) + 1 < (l.length : Int) := by omega
      have hi4 : (j : Int) < (l.length : Int) := by omega
      have hi5 : (0 : Int) ≤ (j : Int) + 1 := by omega
      have hw1 : IntKind.i64.wrap ((j : Int) + 1 - 1) = (j : Int) := by rw [IntKind.wrap_i64]; omega
      have hw2 : IntKind.i64.wrap (j : Int) = (j : Int) := by rw [IntKind.wrap_i64]; omega
      rw [show (((j + 1 : Nat) : Int)) = (j : Int) + 1 by omega] at e1 e2
      go_upto_region 4 with (fail)
      go_cut [25] (fun s25 wx => s25 = .bool (decide ((rd_T90 l (j + 1)).f0 ≤ (rd_T90 l j).f0)) ∧ w.heap.size ≤ wx.heap.size ∧ Hid (Below w.heap.size w wx))
      case first =>
        have S0 : wr.cell? (ad.add ((j + 1) * 2)) = some (.int .u32 (rd_T90 l (j + 1)).f0) ∧ wr.cell? ⟨(ad.add ((j + 1) * 2)).block, (ad.add ((j + 1) * 2)).off + 1, none⟩ = some (.slice A1 (rd_T90 l (j + 1)).f1.length c1) ∧ wr.cell? (ad.add (j * 2)) = some (.int .u32 (rd_T90 l j).f0) ∧ wr.cell? ⟨(ad.add (j * 2)).block, (ad.add (j * 2)).off + 1, none⟩ = some (.slice A2 (rd_T90 l j).f1.length c2) ∧ Below w.heap.size w wr ∧ w.heap.size ≤ wr.heap.size := ⟨e1, e2, e3, e4, HB.out, hsz⟩
        clear e1 e2 e3 e4
        go_region_held3 (fun w' => w'.cell? (ad.add ((j + 1) * 2)) = some (.int .u32 (rd_T90 l (j + 1)).f0) ∧ w'.cell? ⟨(ad.add ((j + 1) * 2)).block, (ad.add ((j + 1) * 2)).off + 1, none⟩ = some (.slice A1 (rd_T90 l (j + 1)).f1.length c1) ∧ w'.cell? (ad.add (j * 2)) = some (.int .u32 (rd_T90 l j).f0) ∧ w'.cell? ⟨(ad.add (j * 2)).block, (ad.add (j * 2)).off + 1, none⟩ = some (.slice A2 (rd_T90 l j).f1.length c2) ∧ Below w.heap.size w w' ∧ w.heap.size ≤ w'.heap.size)
          (first | exact S0 | exact keep4 (by assumption) (by assumption) | exact keep4 (by assumption) (below_drew (Below.refl _ _)))
          (first | (go_at_call 79; refine (ofLocal_walk _ _ _).mono ?_; rintro e w' ⟨rfl, hb1⟩))
        all_goals (go_wp2_with fail)
        all_goals (go_meet)
        all_goals (refine ⟨rfl, ?_, ?_⟩ <;> first | exact (‹_ ∧ _ ∧ _ ∧ _ ∧ _ ∧ _›).2.2.2.2.2 | exact hid (‹_ ∧ _ ∧ _ ∧ _ ∧ _ ∧ _›).2.2.2.2.1)
      case rest =>
        obtain ⟨rfl, hsx, HX⟩ := hcut
        by_cases hup : (rd_T90 l (j + 1)).f0 ≤ (rd_T90 l j).f0
        · have HP := hid hup
          go_wp2
          go_ret
          refine ⟨ret_bool ?_, HX.out⟩
          exact (allB_not hlt (by rw [lIdx_up]; exact decide_eq_false (by have := HP.out; omega))).symm
        · have HP := hid hup
          have hup2 : (rd_T90 l j).f0 < (rd_T90 l (j + 1)).f0 := by omega
          go_wp2
          go_roundw
          case rel => exact ⟨j + 2, by go_num, by omega, by omega, hid (by rw [allB, HA.out, Bool.true_and, lIdx_up]; exact decide_eq_true (by have := HP.out; omega)), hsx, HX⟩
          case measure => simp [intOf]; omega
    · go_wp2
      go_ret
      refine ⟨ret_bool ?_, HB.out⟩
      have e := HA.out
      rcases (show i = l.length ∨ i = l.length + 1 by omega) with rfl | rfl
      · exact e.symm
      · rw [allB, Bool.and_eq_true] at e; exact e.1.symm
end Go.Proofs.YtiohiiekaofkbaaGreatDoor
/- Are names, locals right: names.named, slices.ContainsFunc, slices.IndexFunc. -/
namespace Go.Proofs.YtiohiiekaofkbaaGreatDoor
set_option linter.unusedVariables false
set_option linter.unusedSimpArgs false
open Go.RowKit Go.Proofs.YtiohiiekaofkbaaGreatDoor.PNamesReads Go.Proofs.YtiohiiekaofkbaaGreatDoorW.PrintWords
def vld (s : ByteArray) : Bool := (need (ns s)).2 && (need (ns s)).1 == 0
theorem vld_walk (s : ByteArray) (w : World) (hs : s.size ≤ 140737488351232) : Calls Tryz.prog 83 #[.string s] w (fun e w' => e = .returned (.bool (vld s)) ∧ w = w') := valid_walk s w hs
def nVld (l : List S149) (i : Nat) : Bool := vld (rd_T149 l i).f1
def named (l : List S149) : Bool := allB (upB (nIdx l)) l.length && allB (nVld l) l.length
def lNamed (l : List S90) (i : Nat) : Bool := named (rd_T90 l i).f1
set_option maxHeartbeats 4000000 in
theorem named1_walk (a : Int) (s : ByteArray) (w : World) (hs : s.size ≤ 1000000000) : Calls Tryz.prog 96 #[.agg #[.int .u32 a, .string s]] w fun e w' => e = .returned (.bool (!(vld s))) ∧ Below w.heap.size w w' := by
  have hu := Tryz.underlying149
  go_enter Tryz.func96, Tryz.ntmps96
  go_wp2_with (first | (go_at_call 83; refine (vld_walk s _ (by omega)).mono ?_; rintro e w' ⟨rfl, rfl⟩))
  go_ret
  exact ⟨rfl, bel⟩
def firstN (p : Nat → Bool) (n : Nat) (r : Int) : Prop := (allB p n = true ∧ r = -1) ∨ (allB p n = false ∧ 0 ≤ r)
set_option maxHeartbeats 4000000 in
theorem indexName_walk (A : Option Addr) (c : Nat) (l : List S149) (w : World) (hC : Kd.C k149 w A l.length l) (hlen : l.length ≤ 1000000000) (hs : ∀ i : Nat, i < l.length → (rd_T149 l i).f1.size ≤ 1000000000) :
    Calls Tryz.prog 100 #[.slice A l.length c, .func (.func 96) #[] #[]] w fun e w' => ∃ r, e = .returned (.int .i64 r) ∧ firstN (nVld l) l.length r ∧ Below w.heap.size w w' := by
  have hu := Tryz.underlying149
  have HC := hid hC
  have HS := hid hs
  clear hC hs
  go_enter Tryz.func100, Tryz.ntmps100
  go_wp2
  go_loopw [5, 8] (fun _ v8 wr => ∃ i : Nat, v8 = .int .i64 i ∧ i ≤ l.length ∧ Hid (allB (nVld l) i = true) ∧ w.heap.size ≤ wr.heap.size ∧ Hid (Below w.heap.size w wr)) (fun _ v8 _ => l.length - (intOf v8).toNat)
  case atStart => exact ⟨0, by go_num, by omega, hid rfl, Nat.le_refl _, Below.refl _ _⟩
  case round =>
    obtain ⟨i, rfl, hi1, HA, hsz, HB⟩ := hrel
    by_cases hlt : i < l.length
    · have hcr := Kd.C_below HC.out HB.out
      obtain ⟨ad, rfl, e1, e2⟩ := at_T149 hcr (i : Int) (by omega) (by omega)
      rw [Int.toNat_natCast] at e1 e2
      clear hcr
      have hss := HS.out i hlt
      rcases hv : nVld l i with _ | _
      · have HV := hid hv
        have hv2 : vld (rd_T149 l i).f1 = false := hv
        clear hv
        go_wp2_with (first | (go_at_call 96; refine (named1_walk _ _ _ hss).mono ?_; rw [hv2]; rintro e w' ⟨rfl, hb1⟩; (first | have hq1 := hz1 | have hq1 := True.intro); (first | have hq0 := hz0 | have hq0 := True.intro); obtain ⟨hcc, hff⟩ := bcell hb1; have hz1 := hb1.size; (try simp at hz1); (try have hy1 := Nat.lt_of_lt_of_le hq1 hz1); (try have hy0 := Nat.lt_of_lt_of_le hq0 hz1); (try replace hz1 := Nat.lt_of_succ_le hz1); (try have hz0 := Nat.lt_of_succ_lt hz1)))
        go_ret
        exact ⟨i, rfl, .inr ⟨allB_not hlt HV.out, by omega⟩, HB.out.trans (hb1.mono hsz)⟩
      · have HV := hid hv
        have hv2 : vld (rd_T149 l i).f1 = true := hv
        clear hv
        go_wp2_with (first | (go_at_call 96; refine (named1_walk _ _ _ hss).mono ?_; rw [hv2]; rintro e w' ⟨rfl, hb1⟩; (first | have hq1 := hz1 | have hq1 := True.intro); (first | have hq0 := hz0 | have hq0 := True.intro); obtain ⟨hcc, hff⟩ := bcell hb1; have hz1 := hb1.size; (try simp at hz1); (try have hy1 := Nat.lt_of_lt_of_le hq1 hz1); (try have hy0 := Nat.lt_of_lt_of_le hq0 hz1); (try replace hz1 := Nat.lt_of_succ_le hz1); (try have hz0 := Nat.lt_of_succ_lt hz1)))
        go_roundw
        case rel => exact ⟨i + 1, by go_num, by omega, hid (by rw [allB, HA.out, HV.out]; rfl), by omega, HB.out.trans (hb1.mono hsz)⟩
        case measure => simp [intOf]; omega
    · go_wp2
      go_ret
      exact ⟨-1, rfl, .inl ⟨by rw [show l.length = i by omega]; exact HA.out, rfl⟩, HB.out⟩
set_option maxHeartbeats 4000000 in
theorem containsName_walk (A : Option Addr) (c : Nat) (l : List S149) (w : World) (hC : Kd.C k149 w A l.length l) (hlen : l.length ≤ 1000000000) (hs : ∀ i : Nat, i < l.length → (rd_T149 l i).f1.size ≤ 1000000000) :
    Calls Tryz.prog 95 #[.slice A l.length c, .func (.func 96) #[] #[]] w fun e w' => e = .returned (.bool (!(allB (nVld l) l.length))) ∧ Below w.heap.size w w' := by
  have HI := hid (fun W (h : Kd.C k149 W A l.length l) => indexName_walk A c l W h hlen hs)
  have HC := hid hC
  clear hC hs
  go_enter Tryz.func95, Tryz.ntmps95
  go_wp2_with (first | (go_at_call 100; refine (HI.out _ HC.out).mono ?_; rintro e w' ⟨r, rfl, hr, hb1⟩; have HR := hid hr; clear hr; (first | have hq1 := hz1 | have hq1 := True.intro); (first | have hq0 := hz0 | have hq0 := True.intro); obtain ⟨hcc, hff⟩ := bcell hb1; have hz1 := hb1.size; (try simp at hz1); (try have hy1 := Nat.lt_of_lt_of_le hq1 hz1); (try have hy0 := Nat.lt_of_lt_of_le hq0 hz1); (try replace hz1 := Nat.lt_of_succ_le hz1); (try have hz0 := Nat.lt_of_succ_lt hz1)))
  go_ret
  refine ⟨ret_bool ?_, hb1⟩
  rcases HR.out with ⟨h1, h2⟩ | ⟨h1, h2⟩
  · subst h2; rw [h1]; rfl
  · rw [h1]; simp; omega
set_option maxHeartbeats 4000000 in
theorem named_walk (A : Option Addr) (c : Nat) (l : List S149) (w : World) (hC : Kd.C k149 w A l.length l) (hlen : l.length ≤ 1000000000) (hs : ∀ i : Nat, i < l.length → (rd_T149 l i).f1.size ≤ 1000000000) :
    Calls Tryz.prog 82 #[.slice A l.length c] w fun e w' => e = .returned (.bool (named l)) ∧ Below w.heap.size w w' := by
  have HI := hid (fun W (h : Below w.heap.size w W) => containsName_walk A c l W (Kd.C_below hC h) hlen hs)
  have HR := hid (risesName_walk A c l w hC hlen)
  unfold named
  rcases hu : allB (upB (nIdx l)) l.length with _ | _
  · rw [hu] at HR
    clear hC hs hu
    go_enter Tryz.func82, Tryz.ntmps82
    go_wp2_with (first | (go_at_call 93; refine HR.out.mono ?_; rintro e w' ⟨rfl, hb1⟩; (first | have hq1 := hz1 | have hq1 := True.intro); (first | have hq0 := hz0 | have hq0 := True.intro); obtain ⟨hcc, hff⟩ := bcell hb1; have hz1 := hb1.size; (try simp at hz1); (try have hy1 := Nat.lt_of_lt_of_le hq1 hz1); (try have hy0 := Nat.lt_of_lt_of_le hq0 hz1); (try replace hz1 := Nat.lt_of_succ_le hz1); (try have hz0 := Nat.lt_of_succ_lt hz1)))
    go_ret
    exact ⟨ret_bool rfl, hb1⟩
  · rw [hu] at HR
    clear hC hs hu
    go_enter Tryz.func82, Tryz.ntmps82
    go_wp2_with (first | (go_at_call 93; refine HR.out.mono ?_; rintro e w' ⟨rfl, hb1⟩; (first | have hq1 := hz1 | have hq1 := True.intro); (first | have hq0 := hz0 | have hq0 := True.intro); obtain ⟨hcc, hff⟩ := bcell hb1; have hz1 := hb1.size; (try simp at hz1); (try have hy1 := Nat.lt_of_lt_of_le hq1 hz1); (try have hy0 := Nat.lt_of_lt_of_le hq0 hz1); (try replace hz1 := Nat.lt_of_succ_le hz1); (try have hz0 := Nat.lt_of_succ_lt hz1)) | (go_at_call 95; refine (HI.out _ hb1).mono ?_; rintro e w' ⟨rfl, hb2⟩))
    go_ret
    exact ⟨ret_bool (by simp), hb1.trans (hb2.mono hb1.size)⟩
def Short (l : List S90) : Prop := ∀ i : Nat, i < l.length → (rd_T90 l i).f1.length ≤ 1000000000 ∧ ∀ j : Nat, j < (rd_T90 l i).f1.length → (rd_T149 (rd_T90 l i).f1 j).f1.size ≤ 1000000000
set_option maxHeartbeats 4000000 in
theorem right1_walk (a : Int) (A : Option Addr) (c : Nat) (l : List S149) (w : World) (hC : Kd.C k149 w A l.length l) (hlen : l.length ≤ 1000000000) (hs : ∀ i : Nat, i < l.length → (rd_T149 l i).f1.size ≤ 1000000000) : Calls Tryz.prog 81 #[.agg #[.int .u32 a, .slice A l.length c]] w fun e w' => e = .returned (.bool (!(named l))) ∧ Below w.heap.size w w' := by
  have hu := Tryz.underlying90
  have HI := hid (fun W (h : Below w.heap.size w W) => named_walk A c l W (Kd.C_below hC h) hlen hs)
  clear hC hs
  go_enter Tryz.func81, Tryz.ntmps81
  go_wp2_with (first | (go_at_call 82; refine (HI.out _ bel).mono ?_; rintro e w' ⟨rfl, hb1⟩; (first | have hq1 := hz1 | have hq1 := True.intro); (first | have hq0 := hz0 | have hq0 := True.intro); obtain ⟨hcc, hff⟩ := bcell hb1; have hz1 := hb1.size; (try simp at hz1); (try have hy1 := Nat.lt_of_lt_of_le hq1 hz1); (try have hy0 := Nat.lt_of_lt_of_le hq0 hz1); (try replace hz1 := Nat.lt_of_succ_le hz1); (try have hz0 := Nat.lt_of_succ_lt hz1)))
  go_ret
  exact ⟨rfl, bel⟩
end Go.Proofs.YtiohiiekaofkbaaGreatDoor
/- The reference: is there a sign of a number; is there a number with so many groups more; does a sign begin so. -/
namespace Go.Proofs.YtiohiiekaofkbaaGreatDoor
set_option linter.unusedVariables false
set_option linter.unusedSimpArgs false
open Go.RowKit
def isB (n : Int) : Bool := decide (0 ≤ n ∧ n ≤ 1114111 ∧ (n < 55296 ∨ 57343 < n))
set_option maxHeartbeats 1000000 in
theorem is_walk (n : Int) (w : World) : Calls Tryz.prog 99 #[.int .i64 n] w (fun e w' => e = .returned (.bool (isB n)) ∧ Below w.heap.size w w') := by
  go_enter Tryz.func99, Tryz.ntmps99
  go_wp2
  all_goals
    go_ret
    exact ⟨ret_bool (by rw [Bool.eq_iff_iff]; simp [isB, *] <;> omega), bel⟩
def anyB (n p least most : Int) : Bool :=
  decide ((if 55296 ≤ (if n * p < least then least else n * p) ∧ (if n * p < least then least else n * p) ≤ 57343 then 57344 else (if n * p < least then least else n * p)) ≤ (if most ≤ n * p + p - 1 then most - 1 else n * p + p - 1))
set_option maxRecDepth 100000 in
set_option maxHeartbeats 4000000 in
theorem any_walk (n g least most : Int) (w : World) (n0 : 0 ≤ n) (n1 : n ≤ 10000000) (g0 : 1 ≤ g) (g1 : g ≤ 3) (l0 : 0 ≤ least) (l1 : least ≤ 2000000) (m0 : 1 ≤ most) (m1 : most ≤ 2000000) :
    Calls Tryz.prog 98 #[.int .i64 n, .int .i64 g, .int .i64 least, .int .i64 most] w (fun e w' => e = .returned (.bool (anyB n (64 ^ g.toNat) least most)) ∧ Below w.heap.size w w') := by
  go_enter Tryz.func98, Tryz.ntmps98
  go_wp2
  go_loopw [9, 10, 11] (fun v9 v10 v11 wr => ∃ (i lo hi : Int), v9 = .int .i64 lo ∧ v10 = .int .i64 hi ∧ v11 = .int .i64 i ∧ i ≤ g ∧ ((i = 0 ∧ lo = n ∧ hi = n) ∨ (i = 1 ∧ lo = n * 64 ∧ hi = n * 64 + 63) ∨ (i = 2 ∧ lo = n * 4096 ∧ hi = n * 4096 + 4095) ∨ (i = 3 ∧ lo = n * 262144 ∧ hi = n * 262144 + 262143)) ∧ wr = w) (fun _ _ v11 _ => (g - intOf v11).toNat)
  case atStart => exact ⟨0, n, n, rfl, rfl, rfl, by omega, .inl ⟨rfl, rfl, rfl⟩, rfl⟩
  case round =>
    obtain ⟨i, lo, hi, rfl, rfl, rfl, hi3, hrel, rfl⟩ := hrel
    by_cases hig : i < g
    · have HR := hid hrel
      have i0 : 0 ≤ i := by omega
      have i2 : i ≤ 3 := by omega
      have b0 : 0 ≤ lo := by omega
      have b1 : lo ≤ 10000000 * 4096 := by omega
      have b2 : 0 ≤ hi := by omega
      have b3 : hi ≤ 10000000 * 4096 + 4095 := by omega
      clear hrel
      go_wp2
      refine ⟨⟨_, _, _, rfl, rfl, rfl, by omega, ?_, trivial⟩, by simp [intOf]; omega⟩
      have := HR.out
      omega
    · have hig2 : i = g := by omega
      have HR := hid (show lo = n * 64 ^ g.toNat ∧ hi = n * 64 ^ g.toNat + 64 ^ g.toNat - 1 by
        rcases hrel with ⟨e, e1, e2⟩ | ⟨e, e1, e2⟩ | ⟨e, e1, e2⟩ | ⟨e, e1, e2⟩
        · omega
        · rw [show g.toNat = 1 by omega]; omega
        · rw [show g.toNat = 2 by omega]; omega
        · rw [show g.toNat = 3 by omega]; omega)
      clear hrel hig2
      go_wp2
      all_goals
        go_ret
        refine ⟨ret_bool ?_, bel⟩
        simp only [anyB]
        rw [← HR.out.1, show lo + 64 ^ g.toNat - 1 = hi by have := HR.out.1; have := HR.out.2; omega, Bool.eq_iff_iff, decide_eq_true_iff, decide_eq_true_iff]
        by_cases c1 : lo < least
        · simp only [if_pos c1]
          by_cases c3 : 55296 ≤ least ∧ least ≤ 57343
          · simp only [if_pos c3]
            split <;> omega
          · simp only [if_neg c3]
            split <;> omega
        · simp only [if_neg c1]
          by_cases c3 : 55296 ≤ lo ∧ lo ≤ 57343
          · simp only [if_pos c3]
            split <;> omega
          · simp only [if_neg c3]
            split <;> omega
end Go.Proofs.YtiohiiekaofkbaaGreatDoor
/- The reference: does a sign of so many bytes begin so? -/
namespace Go.Proofs.YtiohiiekaofkbaaGreatDoor
set_option linter.unusedVariables false
set_option linter.unusedSimpArgs false
open Go.RowKit
def bl (least most : Int) : Nat → Int → List Int → Bool
  | 0, n, _ => decide (least ≤ n) && decide (n < most) && isB n
  | k + 1, n, [] => anyB n (64 ^ (k + 1)) least most
  | k + 1, n, x :: t => if x - 128 < 0 ∨ 63 < x - 128 then false else bl least most k (64 * n + (x - 128)) t
def begG (head room least most : Int) (k : Nat) : List Int → Bool
  | [] => false
  | a :: t => if a - head < 0 ∨ room ≤ a - head then false else bl least most k (a - head) t
def begT (size : Int) (l : List Int) : Bool :=
  if size = 1 then begG 0 128 0 128 0 l else if size = 2 then begG 192 32 128 2048 1 l else if size = 3 then begG 224 16 2048 65536 2 l else begG 240 8 65536 1114112 3 l
end Go.Proofs.YtiohiiekaofkbaaGreatDoor
/- The reference: does a sign of 1 bytes begin so? -/
namespace Go.Proofs.YtiohiiekaofkbaaGreatDoor
set_option linter.unusedVariables false
set_option linter.unusedSimpArgs false
open Go.RowKit
set_option maxRecDepth 100000 in
set_option maxHeartbeats 8000000 in
theorem begins_1 (s : ByteArray) (w : World) (hs : s.size ≤ 140737488351232) (hp : 0 < s.size) :
    Calls Tryz.prog 91 #[.string s, .int .i64 1] w (fun e w' => e = .returned (.bool (begG 0 128 0 128 0 (ns s))) ∧ Below w.heap.size w w') := by
  have hR : begG 0 128 0 128 0 (ns s) = if (s[0].toNat : Int) - 0 < 0 ∨ 128 ≤ (s[0].toNat : Int) - 0 then false else bl 0 128 0 ((s[0].toNat : Int) - 0) ((ns s).drop 1) := by
    have h1 := ns_drop s 0 hp
    simp only [List.drop_zero, Nat.zero_add] at h1
    have h2 := congrArg (begG 0 128 0 128 0) h1
    rw [h2]
    rfl
  have hb1 : ((s[0].toNat : Nat) : Int) < 256 := by have := s[0].toNat_lt; omega
  have hb0 : (0 : Int) ≤ (s[0].toNat : Int) := by omega
  rcases hR0 : begG 0 128 0 128 0 (ns s) with _ | _
  all_goals
    rw [hR0] at hR
    have HR := hid hR
    clear hR hR0
    go_enter Tryz.func91, Tryz.ntmps91
    rcases Int.lt_or_le ((s[0].toNat : Int) - 0) 0 with c1 | c1
    · first
        | (exfalso; omega)
        | (exfalso; have := HR.out; rw [if_pos (.inl c1)] at this; cases this; done)
        | (clear HR; go_wp2; go_ret; exact ⟨rfl, bel⟩)
    · rcases Int.lt_or_le ((s[0].toNat : Int) - 0) 128 with c2 | c2
      · have HB := hid (HR.out.trans (if_neg (show ¬ ((s[0].toNat : Int) - 0 < 0 ∨ 128 ≤ (s[0].toNat : Int) - 0) by omega))).symm
        clear HR
        go_wp2
        go_loop [9, 10] (fun v9 v10 => ∃ (j : Nat) (n : Int), v10 = .int .i64 j ∧ v9 = .int .i64 n ∧ 1 ≤ j ∧ j ≤ 1 ∧ j ≤ s.size ∧ 0 ≤ n ∧ ((j = 1 ∧ n < 128) ∨ (j = 2 ∧ n < 8192) ∨ (j = 3 ∧ n < 524288) ∨ (j = 4 ∧ n < 33554432)) ∧ Hid (bl 0 128 (1 - j) n ((ns s).drop j) = bl 0 128 0 ((s[0].toNat : Int) - 0) ((ns s).drop 1))) (fun _ v10 => (1 - intOf v10).toNat)
        case atStart => exact ⟨1, _, by go_num, rfl, by omega, by omega, hp, by omega, by omega, hid (by simp)⟩
        case round =>
          obtain ⟨j, n, rfl, rfl, j1, j2, j3, n0, hn, HJ⟩ := hrel
          have HJ2 := hid (HJ.out.trans HB.out)
          have nb : n < 33554432 := by omega
          by_cases hj : j < 1
          · exfalso; omega
          · have hj2 : j = 1 := by omega
            have HV := hid (show (decide (0 ≤ n) && decide (n < 128) && isB n) = bl 0 128 (1 - j) n ((ns s).drop j) by rw [hj2]; rfl)
            clear hn hj2
            go_wp2_with (first | (go_at_call 99; ((with_reducible refine (is_walk n _).mono ?_); rintro e w' ⟨rfl, hb⟩)))
            all_goals
              go_ret
              exact ⟨ret_bool (by first | (rw [← HJ2.out, ← HV.out]; done) | (rw [← HJ2.out, ← HV.out]; simp [*]; done) | (rw [← HJ2.out, ← HV.out]; simp [*]; intros; omega) | (rw [← HJ2.out, ← HV.out]; simp; intros; omega)), bel⟩
      · first
          | (exfalso; have := HR.out; rw [if_pos (.inr c2)] at this; cases this; done)
          | (clear HR; go_wp2; go_ret; exact ⟨rfl, bel⟩)
end Go.Proofs.YtiohiiekaofkbaaGreatDoor
/- The reference: does a sign of 2 bytes begin so? -/
namespace Go.Proofs.YtiohiiekaofkbaaGreatDoor
set_option linter.unusedVariables false
set_option linter.unusedSimpArgs false
open Go.RowKit
set_option maxRecDepth 100000 in
set_option maxHeartbeats 8000000 in
theorem begins_2 (s : ByteArray) (w : World) (hs : s.size ≤ 140737488351232) (hp : 0 < s.size) :
    Calls Tryz.prog 91 #[.string s, .int .i64 2] w (fun e w' => e = .returned (.bool (begG 192 32 128 2048 1 (ns s))) ∧ Below w.heap.size w w') := by
  have hR : begG 192 32 128 2048 1 (ns s) = if (s[0].toNat : Int) - 192 < 0 ∨ 32 ≤ (s[0].toNat : Int) - 192 then false else bl 128 2048 1 ((s[0].toNat : Int) - 192) ((ns s).drop 1) := by
    have h1 := ns_drop s 0 hp
    simp only [List.drop_zero, Nat.zero_add] at h1
    have h2 := congrArg (begG 192 32 128 2048 1) h1
    rw [h2]
    rfl
  have hb1 : ((s[0].toNat : Nat) : Int) < 256 := by have := s[0].toNat_lt; omega
  have hb0 : (0 : Int) ≤ (s[0].toNat : Int) := by omega
  rcases hR0 : begG 192 32 128 2048 1 (ns s) with _ | _
  all_goals
    rw [hR0] at hR
    have HR := hid hR
    clear hR hR0
    go_enter Tryz.func91, Tryz.ntmps91
    rcases Int.lt_or_le ((s[0].toNat : Int) - 192) 0 with c1 | c1
    · first
        | (exfalso; omega)
        | (exfalso; have := HR.out; rw [if_pos (.inl c1)] at this; cases this; done)
        | (clear HR; go_wp2; go_ret; exact ⟨rfl, bel⟩)
    · rcases Int.lt_or_le ((s[0].toNat : Int) - 192) 32 with c2 | c2
      · have HB := hid (HR.out.trans (if_neg (show ¬ ((s[0].toNat : Int) - 192 < 0 ∨ 32 ≤ (s[0].toNat : Int) - 192) by omega))).symm
        clear HR
        go_wp2
        go_loop [9, 10] (fun v9 v10 => ∃ (j : Nat) (n : Int), v10 = .int .i64 j ∧ v9 = .int .i64 n ∧ 1 ≤ j ∧ j ≤ 2 ∧ j ≤ s.size ∧ 0 ≤ n ∧ ((j = 1 ∧ n < 128) ∨ (j = 2 ∧ n < 8192) ∨ (j = 3 ∧ n < 524288) ∨ (j = 4 ∧ n < 33554432)) ∧ Hid (bl 128 2048 (2 - j) n ((ns s).drop j) = bl 128 2048 1 ((s[0].toNat : Int) - 192) ((ns s).drop 1))) (fun _ v10 => (2 - intOf v10).toNat)
        case atStart => exact ⟨1, _, by go_num, rfl, by omega, by omega, hp, by omega, by omega, hid (by simp)⟩
        case round =>
          obtain ⟨j, n, rfl, rfl, j1, j2, j3, n0, hn, HJ⟩ := hrel
          have HJ2 := hid (HJ.out.trans HB.out)
          have nb : n < 33554432 := by omega
          by_cases hj : j < 2
          · have nb2 : n ≤ 10000000 := by omega
            obtain ⟨k, hk⟩ : ∃ k, 2 - j = k + 1 := ⟨2 - j - 1, by omega⟩
            by_cases hjs : j < s.size
            · have hx0 : (0 : Int) ≤ (s[j].toNat : Int) := by omega
              have hx1 : ((s[j].toNat : Nat) : Int) < 256 := by have := s[j].toNat_lt; omega
              have HX := hid (show (if (s[j].toNat : Int) - 128 < 0 ∨ 63 < (s[j].toNat : Int) - 128 then false else bl 128 2048 k (64 * n + ((s[j].toNat : Int) - 128)) ((ns s).drop (j + 1))) = bl 128 2048 (2 - j) n ((ns s).drop j) by rw [hk, ns_drop s j hjs, bl])
              have HN := hid hn
              have HK := hid hk
              clear hn hk
              rcases Int.lt_or_le ((s[j].toNat : Int) - 128) 0 with d1 | d1
              · have HV := hid ((HX.out.trans HJ2.out).symm.trans (if_pos (.inl d1)))
                go_wp2
                all_goals go_ret
                all_goals exact ⟨ret_bool (by first | rfl | exact HV.out.symm), bel⟩
              · rcases Int.lt_or_le 63 ((s[j].toNat : Int) - 128) with d2 | d2
                · have HV := hid ((HX.out.trans HJ2.out).symm.trans (if_pos (.inr d2)))
                  go_wp2
                  all_goals go_ret
                  all_goals exact ⟨ret_bool (by first | rfl | exact HV.out.symm), bel⟩
                · have HV := hid ((if_neg (show ¬ ((s[j].toNat : Int) - 128 < 0 ∨ 63 < (s[j].toNat : Int) - 128) by omega)).symm.trans (HX.out.trans HJ.out))
                  go_wp2
                  refine ⟨⟨j + 1, _, by go_num, rfl, by omega, by omega, by omega, by omega, by have := HN.out; omega, hid ?_⟩, by simp [intOf]; omega⟩
                  rw [← HV.out]
                  congr 1
                  have := HK.out; omega
            · have HV := hid (show anyB n (64 ^ (k + 1)) 128 2048 = bl 128 2048 (2 - j) n ((ns s).drop j) by rw [hk, List.drop_eq_nil_of_le (by rw [ns_len]; omega), bl])
              have HE := hid (show ((2 : Int) - (j : Int)).toNat = k + 1 by omega)
              have HE2 := hid hk
              clear hn hk
              go_wp2_with (first | (go_at_call 98; ((with_reducible refine (any_walk n (2 - j) 128 2048 _ n0 nb2 (by omega) (by omega) (by omega) (by omega) (by omega) (by omega)).mono ?_); rintro e w' ⟨rfl, hb⟩)))
              go_ret
              exact ⟨ret_bool (by first | (rw [HE.out]; exact HV.out.trans HJ2.out) | (rw [HE2.out]; exact HV.out.trans HJ2.out)), bel⟩
          · have hj2 : j = 2 := by omega
            have HV := hid (show (decide (128 ≤ n) && decide (n < 2048) && isB n) = bl 128 2048 (2 - j) n ((ns s).drop j) by rw [hj2]; rfl)
            clear hn hj2
            go_wp2_with (first | (go_at_call 99; ((with_reducible refine (is_walk n _).mono ?_); rintro e w' ⟨rfl, hb⟩)))
            all_goals
              go_ret
              exact ⟨ret_bool (by first | (rw [← HJ2.out, ← HV.out]; done) | (rw [← HJ2.out, ← HV.out]; simp [*]; done) | (rw [← HJ2.out, ← HV.out]; simp [*]; intros; omega) | (rw [← HJ2.out, ← HV.out]; simp; intros; omega)), bel⟩
      · first
          | (exfalso; have := HR.out; rw [if_pos (.inr c2)] at this; cases this; done)
          | (clear HR; go_wp2; go_ret; exact ⟨rfl, bel⟩)
end Go.Proofs.YtiohiiekaofkbaaGreatDoor
