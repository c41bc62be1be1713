/- dobbylaw04.want's closure: a want of the document as the program's; kinds 0 to 2. -/
import Derived.Test.YtiohiiekaofkbaaDoorD5
import Derived.Test.YtiohiiekaofkbaaDoorC5
import Derived.Test.YtiohiiekaofkbaaDoorS6
import Derived.Test.YtiohiiekaofkbaaDoorPCursorPlacesx1
namespace Go.Proofs.YtiohiiekaofkbaaDoor
set_option linter.unusedVariables false
set_option linter.unusedSimpArgs false
open Go.RowKit Go.Proofs.YtiohiiekaofkbaaDoor.PCursorPlaces Go.Proofs.YtiohiiekaofkbaaDoorW.PrintWords

/-- a want in a block of its own -/
structure BoxQ (B : Nat) (x : S152) (A : Option Addr) (c : Nat) (w : World) : Prop where
  k : w.cell? ⟨B, 0, none⟩ = some (.int .i64 x.f0)
  lo : w.cell? ⟨B, 1, none⟩ = some (.int .u64 x.f1)
  hi : w.cell? ⟨B, 2, none⟩ = some (.int .u64 x.f2)
  i0 : w.cell? ⟨B, 3, none⟩ = some (.int .i64 x.f3.f0)
  i1 : w.cell? ⟨B, 4, none⟩ = some (.int .i64 x.f3.f1)
  o0 : w.cell? ⟨B, 5, none⟩ = some (.int .i64 x.f4.f0)
  o1 : w.cell? ⟨B, 6, none⟩ = some (.int .i64 x.f4.f1)
  b0 : w.cell? ⟨B, 7, none⟩ = some (.int .i64 x.f5.f0)
  b1 : w.cell? ⟨B, 8, none⟩ = some (.int .i64 x.f5.f1)
  pk : w.cell? ⟨B, 9, none⟩ = some (.slice A x.f6.length c)
theorem BoxQ.below {B : Nat} {x : S152} {A : Option Addr} {c : Nat} {w w' : World} (h : BoxQ B x A c w) (hb : Below w.heap.size w w') : BoxQ B x A c w' :=
  ⟨still hb h.k, still hb h.lo, still hb h.hi, still hb h.i0, still hb h.i1, still hb h.o0, still hb h.o1, still hb h.b0, still hb h.b1, still hb h.pk⟩
theorem BoxQ.rd {B g : Nat} {x : S152} {A : Option Addr} {c : Nat} {w w' : World} (h : BoxQ B x A c w) (hne : B ≠ g) (hg : Rd g w w') : BoxQ B x A c w' :=
  ⟨hg.cell hne h.k, hg.cell hne h.lo, hg.cell hne h.hi, hg.cell hne h.i0, hg.cell hne h.i1, hg.cell hne h.o0, hg.cell hne h.o1, hg.cell hne h.b0, hg.cell hne h.b1, hg.cell hne h.pk⟩
/-- a want as it should be -/
structure FineQ (x : S152) : Prop where
  lo : 0 ≤ x.f1 ∧ x.f1 ≤ 18446744073709551615
  hi : 0 ≤ x.f2 ∧ x.f2 ≤ 18446744073709551615
  item : itemB x.f3.f0 x.f3.f1 = true
  own : rightB x.f4.f0 x.f4.f1 = true
  behind : rightB x.f5.f0 x.f5.f1 = true
  mi : x.f3.f1 ≤ 9223372036854775807
  mo : x.f4.f1 ≤ 9223372036854775807
  mb : x.f5.f1 ≤ 9223372036854775807
  len : x.f6.length ≤ 20
  pick : ∀ y ∈ x.f6, rightB y.f1.f0 y.f1.f1 = true ∧ 0 ≤ y.f0 ∧ y.f0 ≤ 18446744073709551615
/-- which numbers are told ahead of a rest -/
def rgP (l : List S157) (r : Int) : List (Int × Int) := (l.filter (fun y => chB y.f1.f0 y.f1.f1 r)).map (fun y => (y.f0, y.f0))
def rgQ (x : S152) (r : Int) : List (Int × Int) :=
  if x.f0 = 0 then (if chB x.f5.f0 x.f5.f1 r = true then [(x.f1, x.f2)] else [])
  else if x.f0 = 1 then [(cnL x.f3.f0 x.f3.f1 x.f5.f0 x.f5.f1 r, cnH x.f3.f0 x.f3.f1 x.f5.f0 x.f5.f1 r)]
  else if x.f0 = 2 then [(szL x.f4.f0 x.f4.f1 x.f5.f0 x.f5.f1 r, szH x.f4.f0 x.f4.f1 x.f5.f0 x.f5.f1 r)]
  else rgP x.f6 r
def PW (W : World) (l : List (Int × Int)) (e : Ending) (w' : World) : Prop := ∃ A k, e = .returned (.slice A l.length k) ∧ RowR w' A l ∧ Below W.heap.size W w'
theorem one_row {W w1 : World} {a b : Int} {o : Obj} (h0 : (w1.alloc o).cell? ⟨w1.heap.size, 0, none⟩ = some (.int .u64 a)) (h1 : (w1.alloc o).cell? ⟨w1.heap.size, 1, none⟩ = some (.int .u64 b)) (ha : 0 ≤ a ∧ a ≤ 18446744073709551615) (hb : 0 ≤ b ∧ b ≤ 18446744073709551615) (hB : Below W.heap.size W w1) (hz : W.heap.size ≤ w1.heap.size) :
    PW W [(a, b)] (.returned (.slice (some ⟨w1.heap.size, 0, none⟩) 1 1)) (w1.alloc o) := by
  refine ⟨some ⟨w1.heap.size, 0, none⟩, 1, rfl, .inr ⟨_, rfl, by simp, ?_⟩, hB.alloc hz o⟩
  intro i hi
  have : i = 0 := by simp at hi; omega
  subst this
  exact ⟨by simpa using h0, by simpa using h1, ha.1, ha.2, hb.1, hb.2⟩
theorem sz_bd (a b c d r : Int) : 0 ≤ szL a b c d r ∧ szL a b c d r ≤ 18446744073709551615 ∧ 0 ≤ szH a b c d r ∧ szH a b c d r ≤ 18446744073709551615 := by
  unfold szL szH
  split
  · decide
  · exact wi_bd _ _
theorem right_iff {a b : Int} (h : rightB a b = true) : 0 ≤ a ∧ a ≤ b ∧ a ≤ 274877906944 ∧ (b ≤ 274877906944 ∨ 1099511627776 ≤ b) := by simpa [rightB] using h
set_option maxRecDepth 100000 in
set_option maxHeartbeats 4000000 in
theorem want1_0 (B : Nat) (x : S152) (A : Option Addr) (c : Nat) (r : Int) (W : World) (h : BoxQ B x A c W) (hf : FineQ x) (hk : x.f0 = 0) (hr : 0 ≤ r) (hr2 : r ≤ 1099511627776) :
    Calls Tryd.prog 147 #[.int .i64 r, .pointer (some ⟨B, 0, none⟩)] W (PW W (rgQ x r)) := by
  obtain ⟨k, lo, hi, i0, i1, o0, o1, b0, b1, pk⟩ := h
  rw [hk] at k
  have HH := hid (fun W => r4has_any x.f5.f0 x.f5.f1 r W hr)
  have HF := hid hf
  rcases hc : chB x.f5.f0 x.f5.f1 r with _ | _
  · have e : rgQ x r = [] := by rw [rgQ, if_pos hk, if_neg (by rw [hc]; simp)]
    rw [e]
    rw [hc] at HH
    clear hc e hf hk
    go_enter Tryd.func147, Tryd.ntmps147
    go_wp2_with (first | (go_at_call 148; refine (HH.out _).mono ?_; rintro e w1 ⟨rfl, hb1⟩; (first | have hq1 := hz1 | have hq1 := True.intro); (first | have hq0 := hz0 | have hq0 := True.intro); obtain ⟨hcc, hff⟩ := bcell hb1; have hz1 := hb1.size; (try simp at hz1); (try have hy1 := Nat.lt_of_lt_of_le hq1 hz1); (try have hy0 := Nat.lt_of_lt_of_le hq0 hz1); (try replace hz1 := Nat.lt_of_succ_le hz1); (try have hz0 := Nat.lt_of_succ_lt hz1)))
    go_ret
    exact ⟨none, 0, rfl, .inl rfl, (by repeat (first | exact Below.refl _ _ | assumption | refine Below.alloc ?_ (by first | exact Nat.le_refl _ | (simp; done) | (simp; omega) | omega) _ | refine Below.drew ?_ | refine Below.setCell ?_ (by first | exact Nat.le_refl _ | (simp; done) | (simp; omega) | omega) _ | refine below_call ?_ (by assumption) (by first | exact Nat.le_refl _ | (simp; done) | (simp; omega) | omega)))⟩
  · have e : rgQ x r = [(x.f1, x.f2)] := by rw [rgQ, if_pos hk, if_pos hc]
    rw [e]
    rw [hc] at HH
    clear hc e hf hk
    go_enter Tryd.func147, Tryd.ntmps147
    go_wp2_with (first | (go_at_call 148; refine (HH.out _).mono ?_; rintro e w1 ⟨rfl, hb1⟩; have lo := still hb1 lo; have hi := still hb1 hi))
    go_ret
    exact one_row (by go_simp) (by go_simp) HF.out.lo HF.out.hi hb1 hb1.size
theorem keep7 {p1 p2 p3 p4 : Addr} {a b c d : Value} {w W W' : World} {B : Nat} (h : W.cell? p1 = some a ∧ W.cell? p2 = some b ∧ W.cell? p3 = some c ∧ W.cell? p4 = some d ∧ Below B w W ∧ B ≤ W.heap.size)
    (hb : Below W.heap.size W W') : W'.cell? p1 = some a ∧ W'.cell? p2 = some b ∧ W'.cell? p3 = some c ∧ W'.cell? p4 = some d ∧ Below B w W' ∧ B ≤ W'.heap.size := by
  obtain ⟨h1, h2, h3, h4, h5, h6⟩ := h
  exact ⟨pw_cell_below hb h1, pw_cell_below hb h2, pw_cell_below hb h3, pw_cell_below hb h4, h5.trans (hb.mono h6), Nat.le_trans h6 hb.size⟩
set_option maxRecDepth 100000 in
set_option maxHeartbeats 4000000 in
theorem want1_1 (B : Nat) (x : S152) (A : Option Addr) (c : Nat) (r : Int) (W : World) (h : BoxQ B x A c W) (hf : FineQ x) (hk : x.f0 = 1) (hr : 0 ≤ r) (hr2 : r ≤ 1099511627776) (hG : Glob W) :
    Calls Tryd.prog 147 #[.int .i64 r, .pointer (some ⟨B, 0, none⟩)] W (PW W (rgQ x r)) := by
  have S0 : W.cell? ⟨B, 3, none⟩ = some (.int .i64 x.f3.f0) ∧ W.cell? ⟨B, 4, none⟩ = some (.int .i64 x.f3.f1) ∧ W.cell? ⟨B, 7, none⟩ = some (.int .i64 x.f5.f0) ∧ W.cell? ⟨B, 8, none⟩ = some (.int .i64 x.f5.f1) ∧ Below W.heap.size W W ∧ W.heap.size ≤ W.heap.size := ⟨h.i0, h.i1, h.b0, h.b1, Below.refl _ _, Nat.le_refl _⟩
  have k := h.k
  rw [hk] at k
  obtain ⟨q1, q2, q3⟩ : rightB x.f3.f0 x.f3.f1 = true ∧ (1 ≤ x.f3.f0 ∧ x.f3.f0 ≤ 31) ∧ (x.f3.f1 ≤ 31 ∨ 1099511627776 ≤ x.f3.f1) := by simpa [itemB, and_assoc] using hf.item
  have r1 := right_iff q1
  have r2 := right_iff hf.behind
  have mi := hf.mi
  have mb := hf.mb
  have HO1 := hid (fun W => own02_any x.f3.f0 x.f3.f1 W)
  have HO2 := hid (fun W => own02_any x.f5.f0 x.f5.f1 W)
  have HC := hid (fun w (hb : Below W.heap.size W w) => counts_glob x.f3.f0 x.f3.f1 x.f5.f0 x.f5.f1 r w (by omega) (by omega) (by omega) (by omega) (by omega) (by omega) (by omega) (by omega) hr hr2 (hG.of hb))
  have HB := hid (cn_bd x.f3.f0 x.f3.f1 x.f5.f0 x.f5.f1 r)
  have e : rgQ x r = [(cnL x.f3.f0 x.f3.f1 x.f5.f0 x.f5.f1 r, cnH x.f3.f0 x.f3.f1 x.f5.f0 x.f5.f1 r)] := by rw [rgQ, if_neg (by omega), if_pos hk]
  rw [e]
  clear e hf hk h q1 q2 q3 r1 r2 mi mb hG
  generalize cnL x.f3.f0 x.f3.f1 x.f5.f0 x.f5.f1 r = L at *
  generalize cnH x.f3.f0 x.f3.f1 x.f5.f0 x.f5.f1 r = H at *
  go_enter Tryd.func147, Tryd.ntmps147
  go_upto_region 7 with (fail)
  refine wp_region_noPanic ?_
  refine wp_region_held_drew (S := (fun w => w.cell? ⟨B, 3, none⟩ = some (.int .i64 x.f3.f0) ∧ w.cell? ⟨B, 4, none⟩ = some (.int .i64 x.f3.f1) ∧ w.cell? ⟨B, 7, none⟩ = some (.int .i64 x.f5.f0) ∧ w.cell? ⟨B, 8, none⟩ = some (.int .i64 x.f5.f1) ∧ Below W.heap.size W w ∧ W.heap.size ≤ w.heap.size)) (by kernel_rfl) ?hSa1 (fun hHeld => ?goa1)
  case hSa1 => first | exact hHeld | exact keep7 hHeld (by assumption) | exact keep7 hHeld ((Below.refl _ _).alloc (Nat.le_refl _) _) | exact keep7 hHeld (below_drewN _ _) | exact keep7 S0 (below_drewN _ _) | exact keep7 S0 (Below.drew (Below.refl _ _))
  refine wpAnyH_take (i := 0) (oi := { dst := some 22, op := Go.Op.fieldAddr 152 (Go.Operand.tmp 1) 3, type := 0, pos := "law.go:50", after := #[], guard := none }) (v := ?_) rfl (by kernel_rfl) (by kernel_rfl) (by kernel_rfl) (fun _ _ _ h => h) (Or.inl ⟨by rfl, ?hya2⟩) (by assumption) ?resta2
  case hya2 => (intro w hSw; (try dsimp only at hSw); go_simp; first | (with_reducible rfl) | (rw [if_neg (by omega)]) | skip)
  simp only [Act.put, List.setIfInBounds_toArray, List.set_cons_zero, List.set_cons_succ]
  refine wpAnyH_take (i := 1) (oi := { dst := some 23, op := Go.Op.load 149 (Go.Operand.tmp 22), type := 149, pos := "law.go:50", after := #[{ on := 0, ground := Go.Ground.data }], guard := none }) (v := ?_) rfl (by kernel_rfl) (by kernel_rfl) (by kernel_rfl) (fun _ _ _ h => h) (Or.inl ⟨by rfl, ?hya3⟩) (by assumption) ?resta3
  case hya3 => (intro w hSw; (try dsimp only at hSw); go_simp; first | (with_reducible rfl) | (rw [if_neg (by omega)]) | skip)
  simp only [Act.put, List.setIfInBounds_toArray, List.set_cons_zero, List.set_cons_succ]
  refine wpAnyH_take (i := 3) (oi := { dst := some 25, op := Go.Op.fieldAddr 152 (Go.Operand.tmp 1) 5, type := 0, pos := "law.go:50", after := #[], guard := none }) (v := ?_) rfl (by kernel_rfl) (by kernel_rfl) (by kernel_rfl) (fun _ _ _ h => h) (Or.inl ⟨by rfl, ?hya4⟩) (by assumption) ?resta4
  case hya4 => (intro w hSw; (try dsimp only at hSw); go_simp; first | (with_reducible rfl) | (rw [if_neg (by omega)]) | skip)
  simp only [Act.put, List.setIfInBounds_toArray, List.set_cons_zero, List.set_cons_succ]
  refine wpAnyH_take (i := 4) (oi := { dst := some 26, op := Go.Op.load 149 (Go.Operand.tmp 25), type := 149, pos := "law.go:50", after := #[{ on := 3, ground := Go.Ground.data }], guard := none }) (v := ?_) rfl (by kernel_rfl) (by kernel_rfl) (by kernel_rfl) (fun _ _ _ h => h) (Or.inl ⟨by rfl, ?hya5⟩) (by assumption) ?resta5
  case hya5 => (intro w hSw; (try dsimp only at hSw); go_simp; first | (with_reducible rfl) | (rw [if_neg (by omega)]) | skip)
  simp only [Act.put, List.setIfInBounds_toArray, List.set_cons_zero, List.set_cons_succ]
  refine wpAnyH_take (i := 6) (oi := { dst := some 28, op := Go.Op.move (Go.Operand.tmp 0), type := 3, pos := "law.go:50", after := #[], guard := none }) (v := ?_) rfl (by kernel_rfl) (by kernel_rfl) (by kernel_rfl) (fun _ _ _ h => h) (Or.inl ⟨by rfl, ?hya6⟩) (by assumption) ?resta6
  case hya6 => (intro w hSw; (try dsimp only at hSw); go_simp; first | (with_reducible rfl) | (rw [if_neg (by omega)]) | skip)
  simp only [Act.put, List.setIfInBounds_toArray, List.set_cons_zero, List.set_cons_succ]
  refine wpAnyH_ready (rs := [2]) (by kernel_rfl) (by simp) ?_
  refine AllReadyH.cons (o := { dst := some 24, op := Go.Op.call { callee := Go.Callee.value (Go.Operand.func 110), args := #[Go.Operand.tmp 23], argTypes := #[149] }, type := 85, pos := "law.go:50", after := #[{ on := 1, ground := Go.Ground.data }], guard := none }) rfl (fun K hK => ?_) AllReadyH.nil
  go_simp
  go_at_call 110; (with_reducible refine (HO1.out _).mono ?_); rintro e w1 ⟨rfl, hb1⟩
  refine hK.out _ _ ?_ (fun hHeld => ?_)
  · (try dsimp only); first | exact hHeld | exact keep7 hHeld (by assumption) | exact keep7 hHeld ((Below.refl _ _).alloc (Nat.le_refl _) _) | exact keep7 hHeld (below_drewN _ _) | exact keep7 S0 (below_drewN _ _) | exact keep7 S0 (Below.drew (Below.refl _ _))
  clear hK K
  try simp only [Act.put, List.setIfInBounds_toArray, List.set_cons_zero, List.set_cons_succ]
  refine wpAnyH_ready (rs := [5]) (by kernel_rfl) (by simp) ?_
  refine AllReadyH.cons (o := { dst := some 27, op := Go.Op.call { callee := Go.Callee.value (Go.Operand.func 110), args := #[Go.Operand.tmp 26], argTypes := #[149] }, type := 85, pos := "law.go:50", after := #[{ on := 4, ground := Go.Ground.data }, { on := 2, ground := Go.Ground.chain }], guard := none }) rfl (fun K hK => ?_) AllReadyH.nil
  go_simp
  go_at_call 110; (with_reducible refine (HO2.out _).mono ?_); rintro e w1 ⟨rfl, hb1⟩
  refine hK.out _ _ ?_ (fun hHeld => ?_)
  · (try dsimp only); first | exact hHeld | exact keep7 hHeld (by assumption) | exact keep7 hHeld ((Below.refl _ _).alloc (Nat.le_refl _) _) | exact keep7 hHeld (below_drewN _ _) | exact keep7 S0 (below_drewN _ _) | exact keep7 S0 (Below.drew (Below.refl _ _))
  clear hK K
  try simp only [Act.put, List.setIfInBounds_toArray, List.set_cons_zero, List.set_cons_succ]
  refine wpAnyH_ready (rs := [7]) (by kernel_rfl) (by simp) ?_
  refine AllReadyH.cons (o := { dst := some 29, op := Go.Op.call { callee := Go.Callee.value (Go.Operand.func 149), args := #[Go.Operand.tmp 24, Go.Operand.tmp 27, Go.Operand.tmp 28], argTypes := #[85, 85, 3] }, type := 174, pos := "law.go:50", after := #[{ on := 2, ground := Go.Ground.data }, { on := 5, ground := Go.Ground.data }, { on := 6, ground := Go.Ground.data }, { on := 5, ground := Go.Ground.chain }], guard := none }) rfl (fun K hK => ?_) AllReadyH.nil
  go_simp
  go_at_call 149; (with_reducible refine (HC.out _ hHeld.2.2.2.2.1).mono ?_); rintro e w1 ⟨rfl, hb1⟩; have HBW := hid hHeld
  refine hK.out _ _ ?_ (fun hHeld => ?_)
  · (try dsimp only); first | exact hHeld | exact keep7 hHeld (by assumption) | exact keep7 hHeld ((Below.refl _ _).alloc (Nat.le_refl _) _) | exact keep7 hHeld (below_drewN _ _) | exact keep7 S0 (below_drewN _ _) | exact keep7 S0 (Below.drew (Below.refl _ _))
  clear hK K
  try simp only [Act.put, List.setIfInBounds_toArray, List.set_cons_zero, List.set_cons_succ]
  refine wpAnyH_ready (rs := [8]) (by kernel_rfl) (by simp) ?_
  refine AllReadyH.cons (o := { dst := some 30, op := Go.Op.buildSlice 172 1 #[(0, Go.Operand.tmp 29)], type := 172, pos := "law.go:50", after := #[{ on := 7, ground := Go.Ground.data }], guard := none }) rfl (fun K hK => ?_) AllReadyH.nil
  go_simp
  refine hK.out _ _ ?_ (fun hHeld => ?_)
  · (try dsimp only); first | exact hHeld | exact keep7 hHeld (by assumption) | exact keep7 hHeld ((Below.refl _ _).alloc (Nat.le_refl _) _) | exact keep7 hHeld (below_drewN _ _) | exact keep7 S0 (below_drewN _ _) | exact keep7 S0 (Below.drew (Below.refl _ _))
  clear hK K
  try simp only [Act.put, List.setIfInBounds_toArray, List.set_cons_zero, List.set_cons_succ]
  refine wpAnyH_take (i := 9) (oi := { dst := some 3, op := Go.Op.assign (Go.Operand.tmp 30), type := 172, pos := "law.go:50", after := #[{ on := 8, ground := Go.Ground.data }, { on := 7, ground := Go.Ground.chain }, { on := 0, ground := Go.Ground.phase }, { on := 1, ground := Go.Ground.phase }, { on := 2, ground := Go.Ground.phase }, { on := 3, ground := Go.Ground.phase }, { on := 4, ground := Go.Ground.phase }, { on := 5, ground := Go.Ground.phase }, { on := 6, ground := Go.Ground.phase }, { on := 7, ground := Go.Ground.phase }, { on := 8, ground := Go.Ground.phase }], guard := none }) (v := ?_) rfl (by kernel_rfl) (by kernel_rfl) (by kernel_rfl) (fun _ _ _ h => h) (Or.inl ⟨by rfl, ?hya7⟩) (by assumption) ?resta7
  case hya7 => (intro w hSw; (try dsimp only at hSw); go_simp; first | (with_reducible rfl) | (rw [if_neg (by omega)]) | skip)
  simp only [Act.put, List.setIfInBounds_toArray, List.set_cons_zero, List.set_cons_succ]
  refine wpAnyH_done (by kernel_rfl) ?_ _
  refine NoPanic.normal ?_
  go_wp2_with fail
  go_ret
  exact one_row (by go_simp) (by go_simp) ⟨HB.out.1, HB.out.2.1⟩ ⟨HB.out.2.2.1, HB.out.2.2.2⟩ (HBW.out.2.2.2.2.1.trans (hb1.mono HBW.out.2.2.2.2.2)) (Nat.le_trans HBW.out.2.2.2.2.2 hb1.size)
set_option maxRecDepth 100000 in
set_option maxHeartbeats 4000000 in
theorem want1_2 (B : Nat) (x : S152) (A : Option Addr) (c : Nat) (r : Int) (W : World) (h : BoxQ B x A c W) (hf : FineQ x) (hk : x.f0 = 2) (hr : 0 ≤ r) (hr2 : r ≤ 1099511627776) (hG : Glob W) :
    Calls Tryd.prog 147 #[.int .i64 r, .pointer (some ⟨B, 0, none⟩)] W (PW W (rgQ x r)) := by
  have S0 : W.cell? ⟨B, 5, none⟩ = some (.int .i64 x.f4.f0) ∧ W.cell? ⟨B, 6, none⟩ = some (.int .i64 x.f4.f1) ∧ W.cell? ⟨B, 7, none⟩ = some (.int .i64 x.f5.f0) ∧ W.cell? ⟨B, 8, none⟩ = some (.int .i64 x.f5.f1) ∧ Below W.heap.size W W ∧ W.heap.size ≤ W.heap.size := ⟨h.o0, h.o1, h.b0, h.b1, Below.refl _ _, Nat.le_refl _⟩
  have k := h.k
  rw [hk] at k
  have r1 := right_iff hf.own
  have r2 := right_iff hf.behind
  have mi := hf.mo
  have mb := hf.mb
  have HO1 := hid (fun W => own02_any x.f4.f0 x.f4.f1 W)
  have HO2 := hid (fun W => own02_any x.f5.f0 x.f5.f1 W)
  have HC := hid (fun w (hb : Below W.heap.size W w) => have hg := hG.of hb; sizes_any x.f4.f0 x.f4.f1 x.f5.f0 x.f5.f1 r w (by omega) (by omega) (by omega) (by omega) (by omega) (by omega) (by omega) (by omega) hr hr2 hg.size hg.c0 hg.c1)
  have HB := hid (sz_bd x.f4.f0 x.f4.f1 x.f5.f0 x.f5.f1 r)
  have e : rgQ x r = [(szL x.f4.f0 x.f4.f1 x.f5.f0 x.f5.f1 r, szH x.f4.f0 x.f4.f1 x.f5.f0 x.f5.f1 r)] := by rw [rgQ, if_neg (by omega), if_neg (by omega), if_pos hk]
  rw [e]
  clear e hf hk h r1 r2 mi mb hG
  generalize szL x.f4.f0 x.f4.f1 x.f5.f0 x.f5.f1 r = L at *
  generalize szH x.f4.f0 x.f4.f1 x.f5.f0 x.f5.f1 r = H at *
  go_enter Tryd.func147, Tryd.ntmps147
  go_upto_region 9 with (fail)
  refine wp_region_noPanic ?_
  refine wp_region_held_drew (S := (fun w => w.cell? ⟨B, 5, none⟩ = some (.int .i64 x.f4.f0) ∧ w.cell? ⟨B, 6, none⟩ = some (.int .i64 x.f4.f1) ∧ w.cell? ⟨B, 7, none⟩ = some (.int .i64 x.f5.f0) ∧ w.cell? ⟨B, 8, none⟩ = some (.int .i64 x.f5.f1) ∧ Below W.heap.size W w ∧ W.heap.size ≤ w.heap.size)) (by kernel_rfl) ?hSb1 (fun hHeld => ?gob1)
  case hSb1 => first | exact hHeld | exact keep7 hHeld (by assumption) | exact keep7 hHeld ((Below.refl _ _).alloc (Nat.le_refl _) _) | exact keep7 hHeld (below_drewN _ _) | exact keep7 S0 (below_drewN _ _) | exact keep7 S0 (Below.drew (Below.refl _ _))
  refine wpAnyH_take (i := 0) (oi := { dst := some 33, op := Go.Op.fieldAddr 152 (Go.Operand.tmp 1) 4, type := 0, pos := "law.go:52", after := #[], guard := none }) (v := ?_) rfl (by kernel_rfl) (by kernel_rfl) (by kernel_rfl) (fun _ _ _ h => h) (Or.inl ⟨by rfl, ?hyb2⟩) (by assumption) ?restb2
  case hyb2 => (intro w hSw; (try dsimp only at hSw); go_simp; first | (with_reducible rfl) | (rw [if_neg (by omega)]) | skip)
  simp only [Act.put, List.setIfInBounds_toArray, List.set_cons_zero, List.set_cons_succ]
  refine wpAnyH_take (i := 1) (oi := { dst := some 34, op := Go.Op.load 149 (Go.Operand.tmp 33), type := 149, pos := "law.go:52", after := #[{ on := 0, ground := Go.Ground.data }], guard := none }) (v := ?_) rfl (by kernel_rfl) (by kernel_rfl) (by kernel_rfl) (fun _ _ _ h => h) (Or.inl ⟨by rfl, ?hyb3⟩) (by assumption) ?restb3
  case hyb3 => (intro w hSw; (try dsimp only at hSw); go_simp; first | (with_reducible rfl) | (rw [if_neg (by omega)]) | skip)
  simp only [Act.put, List.setIfInBounds_toArray, List.set_cons_zero, List.set_cons_succ]
  refine wpAnyH_take (i := 3) (oi := { dst := some 36, op := Go.Op.fieldAddr 152 (Go.Operand.tmp 1) 5, type := 0, pos := "law.go:52", after := #[], guard := none }) (v := ?_) rfl (by kernel_rfl) (by kernel_rfl) (by kernel_rfl) (fun _ _ _ h => h) (Or.inl ⟨by rfl, ?hyb4⟩) (by assumption) ?restb4
  case hyb4 => (intro w hSw; (try dsimp only at hSw); go_simp; first | (with_reducible rfl) | (rw [if_neg (by omega)]) | skip)
  simp only [Act.put, List.setIfInBounds_toArray, List.set_cons_zero, List.set_cons_succ]
  refine wpAnyH_take (i := 4) (oi := { dst := some 37, op := Go.Op.load 149 (Go.Operand.tmp 36), type := 149, pos := "law.go:52", after := #[{ on := 3, ground := Go.Ground.data }], guard := none }) (v := ?_) rfl (by kernel_rfl) (by kernel_rfl) (by kernel_rfl) (fun _ _ _ h => h) (Or.inl ⟨by rfl, ?hyb5⟩) (by assumption) ?restb5
  case hyb5 => (intro w hSw; (try dsimp only at hSw); go_simp; first | (with_reducible rfl) | (rw [if_neg (by omega)]) | skip)
  simp only [Act.put, List.setIfInBounds_toArray, List.set_cons_zero, List.set_cons_succ]
  refine wpAnyH_take (i := 6) (oi := { dst := some 39, op := Go.Op.move (Go.Operand.tmp 0), type := 3, pos := "law.go:52", after := #[], guard := none }) (v := ?_) rfl (by kernel_rfl) (by kernel_rfl) (by kernel_rfl) (fun _ _ _ h => h) (Or.inl ⟨by rfl, ?hyb6⟩) (by assumption) ?restb6
  case hyb6 => (intro w hSw; (try dsimp only at hSw); go_simp; first | (with_reducible rfl) | (rw [if_neg (by omega)]) | skip)
  simp only [Act.put, List.setIfInBounds_toArray, List.set_cons_zero, List.set_cons_succ]
  refine wpAnyH_ready (rs := [2]) (by kernel_rfl) (by simp) ?_
  refine AllReadyH.cons (o := { dst := some 35, op := Go.Op.call { callee := Go.Callee.value (Go.Operand.func 110), args := #[Go.Operand.tmp 34], argTypes := #[149] }, type := 85, pos := "law.go:52", after := #[{ on := 1, ground := Go.Ground.data }], guard := none }) rfl (fun K hK => ?_) AllReadyH.nil
  go_simp
  go_at_call 110; (with_reducible refine (HO1.out _).mono ?_); rintro e w1 ⟨rfl, hb1⟩
  refine hK.out _ _ ?_ (fun hHeld => ?_)
  · (try dsimp only); first | exact hHeld | exact keep7 hHeld (by assumption) | exact keep7 hHeld ((Below.refl _ _).alloc (Nat.le_refl _) _) | exact keep7 hHeld (below_drewN _ _) | exact keep7 S0 (below_drewN _ _) | exact keep7 S0 (Below.drew (Below.refl _ _))
  clear hK K
  try simp only [Act.put, List.setIfInBounds_toArray, List.set_cons_zero, List.set_cons_succ]
  refine wpAnyH_ready (rs := [5]) (by kernel_rfl) (by simp) ?_
  refine AllReadyH.cons (o := { dst := some 38, op := Go.Op.call { callee := Go.Callee.value (Go.Operand.func 110), args := #[Go.Operand.tmp 37], argTypes := #[149] }, type := 85, pos := "law.go:52", after := #[{ on := 4, ground := Go.Ground.data }, { on := 2, ground := Go.Ground.chain }], guard := none }) rfl (fun K hK => ?_) AllReadyH.nil
  go_simp
  go_at_call 110; (with_reducible refine (HO2.out _).mono ?_); rintro e w1 ⟨rfl, hb1⟩
  refine hK.out _ _ ?_ (fun hHeld => ?_)
  · (try dsimp only); first | exact hHeld | exact keep7 hHeld (by assumption) | exact keep7 hHeld ((Below.refl _ _).alloc (Nat.le_refl _) _) | exact keep7 hHeld (below_drewN _ _) | exact keep7 S0 (below_drewN _ _) | exact keep7 S0 (Below.drew (Below.refl _ _))
  clear hK K
  try simp only [Act.put, List.setIfInBounds_toArray, List.set_cons_zero, List.set_cons_succ]
  refine wpAnyH_ready (rs := [7]) (by kernel_rfl) (by simp) ?_
  refine AllReadyH.cons (o := { dst := some 40, op := Go.Op.call { callee := Go.Callee.value (Go.Operand.func 123), args := #[Go.Operand.tmp 35, Go.Operand.tmp 38, Go.Operand.tmp 39], argTypes := #[85, 85, 3] }, type := 174, pos := "law.go:52", after := #[{ on := 2, ground := Go.Ground.data }, { on := 5, ground := Go.Ground.data }, { on := 6, ground := Go.Ground.data }, { on := 5, ground := Go.Ground.chain }], guard := none }) rfl (fun K hK => ?_) AllReadyH.nil
  go_simp
  go_at_call 123; (with_reducible refine (HC.out _ hHeld.2.2.2.2.1).mono ?_); rintro e w1 ⟨rfl, hb1⟩; have HBW := hid hHeld
  refine hK.out _ _ ?_ (fun hHeld => ?_)
  · (try dsimp only); first | exact hHeld | exact keep7 hHeld (by assumption) | exact keep7 hHeld ((Below.refl _ _).alloc (Nat.le_refl _) _) | exact keep7 hHeld (below_drewN _ _) | exact keep7 S0 (below_drewN _ _) | exact keep7 S0 (Below.drew (Below.refl _ _))
  clear hK K
  try simp only [Act.put, List.setIfInBounds_toArray, List.set_cons_zero, List.set_cons_succ]
  refine wpAnyH_ready (rs := [8]) (by kernel_rfl) (by simp) ?_
  refine AllReadyH.cons (o := { dst := some 41, op := Go.Op.buildSlice 172 1 #[(0, Go.Operand.tmp 40)], type := 172, pos := "law.go:52", after := #[{ on := 7, ground := Go.Ground.data }], guard := none }) rfl (fun K hK => ?_) AllReadyH.nil
  go_simp
  refine hK.out _ _ ?_ (fun hHeld => ?_)
  · (try dsimp only); first | exact hHeld | exact keep7 hHeld (by assumption) | exact keep7 hHeld ((Below.refl _ _).alloc (Nat.le_refl _) _) | exact keep7 hHeld (below_drewN _ _) | exact keep7 S0 (below_drewN _ _) | exact keep7 S0 (Below.drew (Below.refl _ _))
  clear hK K
  try simp only [Act.put, List.setIfInBounds_toArray, List.set_cons_zero, List.set_cons_succ]
  refine wpAnyH_take (i := 9) (oi := { dst := some 3, op := Go.Op.assign (Go.Operand.tmp 41), type := 172, pos := "law.go:52", after := #[{ on := 8, ground := Go.Ground.data }, { on := 7, ground := Go.Ground.chain }, { on := 0, ground := Go.Ground.phase }, { on := 1, ground := Go.Ground.phase }, { on := 2, ground := Go.Ground.phase }, { on := 3, ground := Go.Ground.phase }, { on := 4, ground := Go.Ground.phase }, { on := 5, ground := Go.Ground.phase }, { on := 6, ground := Go.Ground.phase }, { on := 7, ground := Go.Ground.phase }, { on := 8, ground := Go.Ground.phase }], guard := none }) (v := ?_) rfl (by kernel_rfl) (by kernel_rfl) (by kernel_rfl) (fun _ _ _ h => h) (Or.inl ⟨by rfl, ?hyb7⟩) (by assumption) ?restb7
  case hyb7 => (intro w hSw; (try dsimp only at hSw); go_simp; first | (with_reducible rfl) | (rw [if_neg (by omega)]) | skip)
  simp only [Act.put, List.setIfInBounds_toArray, List.set_cons_zero, List.set_cons_succ]
  refine wpAnyH_done (by kernel_rfl) ?_ _
  refine NoPanic.normal ?_
  go_wp2_with fail
  go_ret
  exact one_row (by go_simp) (by go_simp) ⟨HB.out.1, HB.out.2.1⟩ ⟨HB.out.2.2.1, HB.out.2.2.2⟩ (HBW.out.2.2.2.2.1.trans (hb1.mono HBW.out.2.2.2.2.2)) (Nat.le_trans HBW.out.2.2.2.2.2 hb1.size)
end Go.Proofs.YtiohiiekaofkbaaDoor
