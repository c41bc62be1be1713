/- The cursor's next bytes. -/
import Derived.Test.YtiohiiekaofkbaaDoorC9
import Derived.Laws.BytesArg
import Derived.DataElems
namespace Go.Proofs.YtiohiiekaofkbaaDoor
set_option linter.unusedVariables false
set_option linter.unusedSimpArgs false
open Go.RowKit

/-- bytes from a place on, as text -/
theorem conv_cells {l : List Int} {ad : Addr} {w : World} (h : ∀ (j : Nat) (x : Int), l[j]? = some x → w.cell? (ad.add j) = some (.int .u8 x)) (cap : Nat) :
    (convert 70 9 (.slice (some ad) l.length cap)).run Tryd.prog w = .ok (.string (strOfNums l)) w := by
  have hl : (loadCells ad l.length).run Tryd.prog w = .ok (l.map (Value.int .u8)).toArray w := by
    have := run_loadCells_list (P := Tryd.prog) w ad (l.map (Value.int .u8)) (fun j v hj => by
      rw [List.getElem?_map] at hj
      rcases hx : l[j]? with _ | x
      · rw [hx] at hj; cases hj
      · rw [hx] at hj; cases hj; exact h j x hx)
    simpa using this
  rw [run_convert_bytes_string w 70 9 5 _ l.length cap Tryd.underlying70 Tryd.underlying5 Tryd.underlying9, run_bytesToString w _ l.length cap l hl, foldl_push_bytes]
  simp [strOfNums, ByteArray.empty, ByteArray.emptyWithCapacity]
  rfl
theorem conv_sub {l : List Int} {ad : Addr} {w : World} (h : ∀ (j : Nat) (x : Int), l[j]? = some x → w.cell? (ad.add j) = some (.int .u8 x)) (i n cap : Nat) (hn : i + n ≤ l.length) :
    (convert 70 9 (.slice (some (ad.add i)) n cap)).run Tryd.prog w = .ok (.string (strOfNums ((l.drop i).take n))) w := by
  have hlen : ((l.drop i).take n).length = n := by simp; omega
  have := conv_cells (l := (l.drop i).take n) (ad := ad.add i) (w := w) (fun j x hj => by
    have hjn : j < n := by
      have := (List.getElem?_eq_some_iff.1 hj).1
      omega
    rw [List.getElem?_take, if_pos hjn, List.getElem?_drop] at hj
    rw [Addr.add_add]
    exact h _ _ hj) cap
  rwa [hlen] at this

/-- the next n bytes -/
def rawM (l : List Int) (p lim n : Int) : Except (Int × Int) (List Int × Int) :=
  if n ≤ 0 then .ok ([], p) else if rest p lim < n ∧ rest p lim ≤ l.length - p then .error (p + rest p lim, 2)
  else if l.length - p < n then .error (l.length, 1) else .ok ((l.drop p.toNat).take n.toNat, p + n)
def sRes (r : Except (Int × Int) (List Int × Int)) : Res := match r with | .ok (s, p') => .ok (.string (strOfNums s), p') | .error e => .error e

set_option maxRecDepth 100000 in
set_option maxHeartbeats 8000000 in
theorem raw_walk (g : Nat) (A : Option Addr) (c : Nat) (l : List Int) (p lim n : Int) (w : World) (h : CB g A c l p lim w) (hcap : l.length ≤ c) (hn0 : -9223372036854775808 ≤ n) (hn1 : n ≤ 9223372036854775807) :
    Calls Tryd.prog 111 #[.pointer (some ⟨g, 0, none⟩), .int .i64 n] w (Post g A c l lim w (sRes (rawM l p lim n))) := by
  by_cases h0 : n ≤ 0
  · have e : rawM l p lim n = .ok ([], p) := by rw [rawM, if_pos h0]
    rw [e]
    clear e
    go_enter Tryd.func111, Tryd.ntmps111
    go_wp2
    go_ret
    exact ⟨rfl, h, grown_of_below (Below.refl _ _) _⟩
  have HC := hid h
  have p0 := h.p0
  have p1 := h.p1
  have hl := h.hl
  have l2 := h.l2
  have HRR := hid (show 0 ≤ rest p lim ∨ rest p lim < 0 from by omega)
  have HR := hid (rest_b h)
  have hr1 : rest p lim ≤ 1099511627776 := by unfold rest; split <;> omega
  have hr0 : -1000000000 ≤ rest p lim := by unfold rest; split <;> omega
  have hw1 : IntKind.i64.wrap ((l.length : Int) - p) = (l.length : Int) - p := by rw [IntKind.wrap_i64]; omega
  have hw2 : IntKind.i64.wrap (p + rest p lim) = p + rest p lim := by rw [IntKind.wrap_i64]; omega
  obtain ⟨c0, c1, c2, f1, f2⟩ := h.cu
  have S0 : w.cell? ⟨g, 0, none⟩ = some (.slice A l.length c) ∧ w.cell? ⟨g, 1, none⟩ = some (.int .i64 p) ∧ w.cell? ⟨g, 2, none⟩ = some (.int .i64 lim) ∧ Below w.heap.size w w ∧ w.heap.size ≤ w.heap.size := ⟨c0, c1, c2, Below.refl _ _, Nat.le_refl _⟩
  by_cases hb : rest p lim < n ∧ rest p lim ≤ l.length - p
  · have e : rawM l p lim n = .error (p + rest p lim, 2) := by rw [rawM, if_neg h0, if_pos hb]
    rw [e]
    clear e
    obtain ⟨hb1, hb2⟩ := hb
    have hb1' : ¬ n ≤ rest p lim := by omega
    have hb2' : ¬ l.length - p < rest p lim := by omega
    go_enter Tryd.func111, Tryd.ntmps111
    go_upto_region 3 with (fail)
    go_quiet (fail)
    go_upto_region 4 with (fail)
    obtain ⟨W1, hW1⟩ : ∃ W1, W1 = w.drewN nq := ⟨_, rfl⟩
    have S1 := keepN S0 (below_drewN w nq)
    rw [← hW1] at S1 ⊢
    clear hW1 c0 c1 c2
    refine wp_region_held_drew (S := (fun W => W.cell? ⟨g, 0, none⟩ = some (.slice A l.length c) ∧ W.cell? ⟨g, 1, none⟩ = some (.int .i64 p) ∧ W.cell? ⟨g, 2, none⟩ = some (.int .i64 lim) ∧ Below w.heap.size w W ∧ w.heap.size ≤ W.heap.size)) (by kernel_rfl) ?hSa1 (fun hHeld => ?goa1)
    case hSa1 => first | exact hHeld | exact keepN hHeld (by assumption) | exact keepN hHeld (below_drewN _ _) | exact keepN S1 (Below.drew (Below.refl _ _))
    refine wpAnyH_take (i := 0) (oi := { dst := some 18, op := Go.Op.move (Go.Operand.tmp 0), type := 81, pos := "cursor.go:98", after := #[], guard := none }) (v := ?_) rfl (by kernel_rfl) (by kernel_rfl) (by kernel_rfl) (fun _ _ _ h => h) (Or.inl ⟨by rfl, ?hya2⟩) (by assumption) ?resta2
    case hya2 => (intro w hSw; (try dsimp only at hSw); go_simp; first | (with_reducible rfl) | (rw [if_neg (by omega)]) | skip)
    simp only [Act.put, List.setIfInBounds_toArray, List.set_cons_zero, List.set_cons_succ]
    refine wpAnyH_take (i := 2) (oi := { dst := some 20, op := Go.Op.move (Go.Operand.tmp 1), type := 3, pos := "cursor.go:98", after := #[], guard := none }) (v := ?_) rfl (by kernel_rfl) (by kernel_rfl) (by kernel_rfl) (fun _ _ _ h => h) (Or.inl ⟨by rfl, ?hya3⟩) (by assumption) ?resta3
    case hya3 => (intro w hSw; (try dsimp only at hSw); go_simp; first | (with_reducible rfl) | (rw [if_neg (by omega)]) | skip)
    simp only [Act.put, List.setIfInBounds_toArray, List.set_cons_zero, List.set_cons_succ]
    refine wpAnyH_take (i := 10) (oi := { dst := some 28, op := Go.Op.move (Go.Operand.tmp 0), type := 81, pos := "cursor.go:98", after := #[], guard := none }) (v := ?_) rfl (by kernel_rfl) (by kernel_rfl) (by kernel_rfl) (fun _ _ _ h => h) (Or.inl ⟨by rfl, ?hya4⟩) (by assumption) ?resta4
    case hya4 => (intro w hSw; (try dsimp only at hSw); go_simp; first | (with_reducible rfl) | (rw [if_neg (by omega)]) | skip)
    simp only [Act.put, List.setIfInBounds_toArray, List.set_cons_zero, List.set_cons_succ]
    refine wpAnyH_take (i := 11) (oi := { dst := some 29, op := Go.Op.nilCheck (Go.Operand.tmp 28), type := 0, pos := "cursor.go:98", after := #[{ on := 10, ground := Go.Ground.data }], guard := none }) (v := ?_) rfl (by kernel_rfl) (by kernel_rfl) (by kernel_rfl) (fun _ _ _ h => h) (Or.inl ⟨by rfl, ?hya5⟩) (by assumption) ?resta5
    case hya5 => (intro w hSw; (try dsimp only at hSw); go_simp; first | (with_reducible rfl) | (rw [if_neg (by omega)]) | skip)
    simp only [Act.put, List.setIfInBounds_toArray, List.set_cons_zero, List.set_cons_succ]
    refine wpAnyH_take (i := 12) (oi := { dst := some 30, op := Go.Op.fieldAddr 136 (Go.Operand.tmp 29) 1, type := 0, pos := "cursor.go:98", after := #[{ on := 11, ground := Go.Ground.data }], guard := none }) (v := ?_) rfl (by kernel_rfl) (by kernel_rfl) (by kernel_rfl) (fun _ _ _ h => h) (Or.inl ⟨by rfl, ?hya6⟩) (by assumption) ?resta6
    case hya6 => (intro w hSw; (try dsimp only at hSw); go_simp; first | (with_reducible rfl) | (rw [if_neg (by omega)]) | skip)
    simp only [Act.put, List.setIfInBounds_toArray, List.set_cons_zero, List.set_cons_succ]
    refine wpAnyH_take (i := 13) (oi := { dst := some 31, op := Go.Op.load 3 (Go.Operand.tmp 30), type := 3, pos := "cursor.go:98", after := #[{ on := 12, ground := Go.Ground.data }], guard := none }) (v := ?_) rfl (by kernel_rfl) (by kernel_rfl) (by kernel_rfl) (fun _ _ _ h => h) (Or.inl ⟨by rfl, ?hya7⟩) (by assumption) ?resta7
    case hya7 => (intro w hSw; (try dsimp only at hSw); go_simp; first | (with_reducible rfl) | (rw [if_neg (by omega)]) | skip)
    simp only [Act.put, List.setIfInBounds_toArray, List.set_cons_zero, List.set_cons_succ]
    refine wpAnyH_take (i := 14) (oi := { dst := some 32, op := Go.Op.move (Go.Operand.tmp 0), type := 81, pos := "cursor.go:98", after := #[], guard := none }) (v := ?_) rfl (by kernel_rfl) (by kernel_rfl) (by kernel_rfl) (fun _ _ _ h => h) (Or.inl ⟨by rfl, ?hya8⟩) (by assumption) ?resta8
    case hya8 => (intro w hSw; (try dsimp only at hSw); go_simp; first | (with_reducible rfl) | (rw [if_neg (by omega)]) | skip)
    simp only [Act.put, List.setIfInBounds_toArray, List.set_cons_zero, List.set_cons_succ]
    refine wpAnyH_ready (rs := [1]) (by kernel_rfl) (by simp) ?_
    refine AllReadyH.cons (o := { dst := some 19, op := Go.Op.call { callee := Go.Callee.value (Go.Operand.func 68), args := #[Go.Operand.tmp 18], argTypes := #[81] }, type := 3, pos := "cursor.go:98", after := #[{ on := 0, ground := Go.Ground.data }], guard := none }) rfl (fun K hK => ?_) AllReadyH.nil
    go_simp
    go_at_call 68; (with_reducible refine (HR.out _ hHeld.2.2.2.1).mono ?_); rintro e wx1 ⟨rfl, hbx1⟩
    refine hK.out _ _ ?_ (fun hHeld => ?_)
    · (try dsimp only); first | exact hHeld | exact keepN hHeld (by assumption) | exact keepN hHeld (below_drewN _ _) | exact keepN S1 (Below.drew (Below.refl _ _))
    clear hK K
    try simp only [Act.put, List.setIfInBounds_toArray, List.set_cons_zero, List.set_cons_succ]
    refine wpAnyH_take (i := 3) (oi := { dst := some 21, op := Go.Op.binOp Go.BinOp.geq 3 (Go.Operand.tmp 19) (Go.Operand.tmp 20) 3, type := 4, pos := "cursor.go:98", after := #[{ on := 1, ground := Go.Ground.data }, { on := 2, ground := Go.Ground.data }], guard := none }) (v := ?_) rfl (by kernel_rfl) (by kernel_rfl) (by kernel_rfl) (fun _ _ _ h => h) (Or.inl ⟨by rfl, ?hya9⟩) (by assumption) ?resta9
    case hya9 => (intro w hSw; (try dsimp only at hSw); go_simp; first | (with_reducible rfl) | (rw [if_neg (by omega)]) | skip)
    simp only [Act.put, List.setIfInBounds_toArray, List.set_cons_zero, List.set_cons_succ]
    refine wpAnyH_take (i := 4) (oi := { dst := some 22, op := Go.Op.move (Go.Operand.tmp 21), type := 4, pos := "cursor.go:98", after := #[{ on := 3, ground := Go.Ground.data }, { on := 1, ground := Go.Ground.chain }], guard := none }) (v := ?_) rfl (by kernel_rfl) (by kernel_rfl) (by kernel_rfl) (fun _ _ _ h => h) (Or.inl ⟨by rfl, ?hya10⟩) (by assumption) ?resta10
    case hya10 => (intro w hSw; (try dsimp only at hSw); go_simp; first | (with_reducible rfl) | (rw [if_neg (by omega)]) | skip)
    simp only [Act.put, List.setIfInBounds_toArray, List.set_cons_zero, List.set_cons_succ]
    refine wpAnyH_take (i := 5) (oi := { dst := some 23, op := Go.Op.move (Go.Operand.tmp 0), type := 81, pos := "cursor.go:98", after := #[{ on := 4, ground := Go.Ground.guard }], guard := some (4, false) }) (v := ?_) rfl (by kernel_rfl) (by kernel_rfl) (by kernel_rfl) (fun _ _ _ h => h) (Or.inl ⟨by rfl, ?hya11⟩) (by assumption) ?resta11
    case hya11 => (intro w hSw; (try dsimp only at hSw); go_simp; first | (with_reducible rfl) | (rw [if_neg (by omega)]) | skip)
    simp only [Act.put, List.setIfInBounds_toArray, List.set_cons_zero, List.set_cons_succ]
    refine wpAnyH_take (i := 7) (oi := { dst := some 25, op := Go.Op.move (Go.Operand.tmp 5), type := 3, pos := "cursor.go:98", after := #[{ on := 4, ground := Go.Ground.guard }], guard := some (4, false) }) (v := ?_) rfl (by kernel_rfl) (by kernel_rfl) (by kernel_rfl) (fun _ _ _ h => h) (Or.inl ⟨by rfl, ?hya12⟩) (by assumption) ?resta12
    case hya12 => (intro w hSw; (try dsimp only at hSw); go_simp; first | (with_reducible rfl) | (rw [if_neg (by omega)]) | skip)
    simp only [Act.put, List.setIfInBounds_toArray, List.set_cons_zero, List.set_cons_succ]
    refine wpAnyH_ready (rs := [6]) (by kernel_rfl) (by simp) ?_
    refine AllReadyH.cons (o := { dst := some 24, op := Go.Op.call { callee := Go.Callee.value (Go.Operand.func 68), args := #[Go.Operand.tmp 23], argTypes := #[81] }, type := 3, pos := "cursor.go:98", after := #[{ on := 5, ground := Go.Ground.data }, { on := 4, ground := Go.Ground.chain }, { on := 4, ground := Go.Ground.guard }], guard := some (4, false) }) rfl (fun K hK => ?_) AllReadyH.nil
    go_simp
    go_at_call 68; (with_reducible refine (HR.out _ hHeld.2.2.2.1).mono ?_); rintro e wx2 ⟨rfl, hbx2⟩
    refine hK.out _ _ ?_ (fun hHeld => ?_)
    · (try dsimp only); first | exact hHeld | exact keepN hHeld (by assumption) | exact keepN hHeld (below_drewN _ _) | exact keepN S1 (Below.drew (Below.refl _ _))
    clear hK K
    try simp only [Act.put, List.setIfInBounds_toArray, List.set_cons_zero, List.set_cons_succ]
    refine wpAnyH_take (i := 8) (oi := { dst := some 26, op := Go.Op.binOp Go.BinOp.gtr 3 (Go.Operand.tmp 24) (Go.Operand.tmp 25) 3, type := 4, pos := "cursor.go:98", after := #[{ on := 6, ground := Go.Ground.data }, { on := 7, ground := Go.Ground.data }, { on := 4, ground := Go.Ground.guard }], guard := some (4, false) }) (v := ?_) rfl (by kernel_rfl) (by kernel_rfl) (by kernel_rfl) (fun _ _ _ h => h) (Or.inl ⟨by rfl, ?hya13⟩) (by assumption) ?resta13
    case hya13 => (intro w hSw; (try dsimp only at hSw); go_simp; first | (with_reducible rfl) | (rw [if_neg (by omega)]) | skip)
    simp only [Act.put, List.setIfInBounds_toArray, List.set_cons_zero, List.set_cons_succ]
    refine wpAnyH_take (i := 9) (oi := { dst := some 27, op := Go.Op.pick (Go.Operand.tmp 22) (Go.Operand.const (Go.Value.bool true)) (Go.Operand.tmp 26), type := 4, pos := "cursor.go:98", after := #[{ on := 4, ground := Go.Ground.data }, { on := 8, ground := Go.Ground.data }], guard := none }) (v := ?_) rfl (by kernel_rfl) (by kernel_rfl) (by kernel_rfl) (fun _ _ _ h => h) (Or.inl ⟨by rfl, ?hya14⟩) (by assumption) ?resta14
    case hya14 => (intro w hSw; (try dsimp only at hSw); go_simp; first | (with_reducible rfl) | (rw [if_neg (by omega)]) | skip)
    simp only [Act.put, List.setIfInBounds_toArray, List.set_cons_zero, List.set_cons_succ]
    refine wpAnyH_ready (rs := [15]) (by kernel_rfl) (by simp) ?_
    refine AllReadyH.cons (o := { dst := some 33, op := Go.Op.call { callee := Go.Callee.value (Go.Operand.func 68), args := #[Go.Operand.tmp 32], argTypes := #[81] }, type := 3, pos := "cursor.go:98", after := #[{ on := 14, ground := Go.Ground.data }, { on := 6, ground := Go.Ground.chain }], guard := none }) rfl (fun K hK => ?_) AllReadyH.nil
    go_simp
    go_at_call 68; (with_reducible refine (HR.out _ hHeld.2.2.2.1).mono ?_); rintro e wx3 ⟨rfl, hbx3⟩
    refine hK.out _ _ ?_ (fun hHeld => ?_)
    · (try dsimp only); first | exact hHeld | exact keepN hHeld (by assumption) | exact keepN hHeld (below_drewN _ _) | exact keepN S1 (Below.drew (Below.refl _ _))
    clear hK K
    try simp only [Act.put, List.setIfInBounds_toArray, List.set_cons_zero, List.set_cons_succ]
    refine wpAnyH_take (i := 16) (oi := { dst := some 34, op := Go.Op.binOp Go.BinOp.add 3 (Go.Operand.tmp 31) (Go.Operand.tmp 33) 3, type := 3, pos := "cursor.go:98", after := #[{ on := 13, ground := Go.Ground.data }, { on := 15, ground := Go.Ground.data }], guard := none }) (v := ?_) rfl (by kernel_rfl) (by kernel_rfl) (by kernel_rfl) (fun _ _ _ h => h) (Or.inl ⟨by rfl, ?hya15⟩) (by assumption) ?resta15
    case hya15 => (intro w hSw; (try dsimp only at hSw); go_simp; first | (with_reducible rfl) | (rw [if_neg (by omega)]) | skip)
    simp only [Act.put, List.setIfInBounds_toArray, List.set_cons_zero, List.set_cons_succ]
    refine wpAnyH_ready (rs := [17]) (by kernel_rfl) (by simp) ?_
    refine AllReadyH.cons (o := { dst := some 35, op := Go.Op.call { callee := Go.Callee.value (Go.Operand.func 92), args := #[Go.Operand.tmp 27, Go.Operand.tmp 34], argTypes := #[4, 3] }, type := 0, pos := "cursor.go:98", after := #[{ on := 9, ground := Go.Ground.data }, { on := 16, ground := Go.Ground.data }, { on := 15, ground := Go.Ground.chain }], guard := none }) rfl (fun K hK => ?_) AllReadyH.nil
    go_simp
    (try rw [hw2]); go_at_call 92; (with_reducible refine (need_no _ _).mono ?_); rintro e w1 ⟨rfl, rfl⟩; exact ⟨rfl, rfl, grown_of_below hHeld.2.2.2.1 _⟩
  by_cases hlt : l.length - p < n
  · have e : rawM l p lim n = .error (l.length, 1) := by rw [rawM, if_neg h0, if_neg hb, if_pos hlt]
    rw [e]
    clear e
    by_cases hge : n ≤ rest p lim
    · go_enter Tryd.func111, Tryd.ntmps111
      go_upto_region 3 with (fail)
      go_quiet (fail)
      go_upto_region 4 with (fail)
      obtain ⟨W1, hW1⟩ : ∃ W1, W1 = w.drewN nq := ⟨_, rfl⟩
      have S1 := keepN S0 (below_drewN w nq)
      rw [← hW1] at S1 ⊢
      clear hW1 c0 c1 c2
      refine wp_region_noPanic ?_
      refine wp_region_held_drew (S := (fun W => W.cell? ⟨g, 0, none⟩ = some (.slice A l.length c) ∧ W.cell? ⟨g, 1, none⟩ = some (.int .i64 p) ∧ W.cell? ⟨g, 2, none⟩ = some (.int .i64 lim) ∧ Below w.heap.size w W ∧ w.heap.size ≤ W.heap.size)) (by kernel_rfl) ?hSb (fun hHeld => ?gob)
      case hSb => first | exact hHeld | exact keepN hHeld (by assumption) | exact keepN hHeld (below_drewN _ _) | exact keepN S1 (Below.drew (Below.refl _ _))
      refine wpAnyH_take (i := 0) (oi := { dst := some 18, op := Go.Op.move (Go.Operand.tmp 0), type := 81, pos := "cursor.go:98", after := #[], guard := none }) (v := ?_) rfl (by kernel_rfl) (by kernel_rfl) (by kernel_rfl) (fun _ _ _ h => h) (Or.inl ⟨by rfl, ?hy0b⟩) (by assumption) ?rest0b
      case hy0b => (intro w hSw; (try dsimp only at hSw); go_simp; first | (with_reducible rfl) | (rw [if_neg (by omega)]) | skip)
      simp only [Act.put, List.setIfInBounds_toArray, List.set_cons_zero, List.set_cons_succ]
      refine wpAnyH_take (i := 2) (oi := { dst := some 20, op := Go.Op.move (Go.Operand.tmp 1), type := 3, pos := "cursor.go:98", after := #[], guard := none }) (v := ?_) rfl (by kernel_rfl) (by kernel_rfl) (by kernel_rfl) (fun _ _ _ h => h) (Or.inl ⟨by rfl, ?hy2b⟩) (by assumption) ?rest2b
      case hy2b => (intro w hSw; (try dsimp only at hSw); go_simp; first | (with_reducible rfl) | (rw [if_neg (by omega)]) | skip)
      simp only [Act.put, List.setIfInBounds_toArray, List.set_cons_zero, List.set_cons_succ]
      refine wpAnyH_take (i := 10) (oi := { dst := some 28, op := Go.Op.move (Go.Operand.tmp 0), type := 81, pos := "cursor.go:98", after := #[], guard := none }) (v := ?_) rfl (by kernel_rfl) (by kernel_rfl) (by kernel_rfl) (fun _ _ _ h => h) (Or.inl ⟨by rfl, ?hy10b⟩) (by assumption) ?rest10b
      case hy10b => (intro w hSw; (try dsimp only at hSw); go_simp; first | (with_reducible rfl) | (rw [if_neg (by omega)]) | skip)
      simp only [Act.put, List.setIfInBounds_toArray, List.set_cons_zero, List.set_cons_succ]
      refine wpAnyH_take (i := 11) (oi := { dst := some 29, op := Go.Op.nilCheck (Go.Operand.tmp 28), type := 0, pos := "cursor.go:98", after := #[{ on := 10, ground := Go.Ground.data }], guard := none }) (v := ?_) rfl (by kernel_rfl) (by kernel_rfl) (by kernel_rfl) (fun _ _ _ h => h) (Or.inl ⟨by rfl, ?hy11b⟩) (by assumption) ?rest11b
      case hy11b => (intro w hSw; (try dsimp only at hSw); go_simp; first | (with_reducible rfl) | (rw [if_neg (by omega)]) | skip)
      simp only [Act.put, List.setIfInBounds_toArray, List.set_cons_zero, List.set_cons_succ]
      refine wpAnyH_take (i := 12) (oi := { dst := some 30, op := Go.Op.fieldAddr 136 (Go.Operand.tmp 29) 1, type := 0, pos := "cursor.go:98", after := #[{ on := 11, ground := Go.Ground.data }], guard := none }) (v := ?_) rfl (by kernel_rfl) (by kernel_rfl) (by kernel_rfl) (fun _ _ _ h => h) (Or.inl ⟨by rfl, ?hy12b⟩) (by assumption) ?rest12b
      case hy12b => (intro w hSw; (try dsimp only at hSw); go_simp; first | (with_reducible rfl) | (rw [if_neg (by omega)]) | skip)
      simp only [Act.put, List.setIfInBounds_toArray, List.set_cons_zero, List.set_cons_succ]
      refine wpAnyH_take (i := 13) (oi := { dst := some 31, op := Go.Op.load 3 (Go.Operand.tmp 30), type := 3, pos := "cursor.go:98", after := #[{ on := 12, ground := Go.Ground.data }], guard := none }) (v := ?_) rfl (by kernel_rfl) (by kernel_rfl) (by kernel_rfl) (fun _ _ _ h => h) (Or.inl ⟨by rfl, ?hy13b⟩) (by assumption) ?rest13b
      case hy13b => (intro w hSw; (try dsimp only at hSw); go_simp; first | (with_reducible rfl) | (rw [if_neg (by omega)]) | skip)
      simp only [Act.put, List.setIfInBounds_toArray, List.set_cons_zero, List.set_cons_succ]
      refine wpAnyH_take (i := 14) (oi := { dst := some 32, op := Go.Op.move (Go.Operand.tmp 0), type := 81, pos := "cursor.go:98", after := #[], guard := none }) (v := ?_) rfl (by kernel_rfl) (by kernel_rfl) (by kernel_rfl) (fun _ _ _ h => h) (Or.inl ⟨by rfl, ?hy14b⟩) (by assumption) ?rest14b
      case hy14b => (intro w hSw; (try dsimp only at hSw); go_simp; first | (with_reducible rfl) | (rw [if_neg (by omega)]) | skip)
      simp only [Act.put, List.setIfInBounds_toArray, List.set_cons_zero, List.set_cons_succ]
      refine wpAnyH_ready (rs := [1]) (by kernel_rfl) (by simp) ?_
      refine AllReadyH.cons (o := { dst := some 19, op := Go.Op.call { callee := Go.Callee.value (Go.Operand.func 68), args := #[Go.Operand.tmp 18], argTypes := #[81] }, type := 3, pos := "cursor.go:98", after := #[{ on := 0, ground := Go.Ground.data }], guard := none }) rfl (fun K hK => ?_) AllReadyH.nil
      go_simp
      go_at_call 68; (with_reducible refine (HR.out _ hHeld.2.2.2.1).mono ?_); rintro e wx1 ⟨rfl, hbx1⟩
      refine hK.out _ _ ?_ (fun hHeld => ?_)
      · (try dsimp only); first | exact hHeld | exact keepN hHeld (by assumption) | exact keepN hHeld (below_drewN _ _) | exact keepN S1 (Below.drew (Below.refl _ _))
      clear hK K
      try simp only [Act.put, List.setIfInBounds_toArray, List.set_cons_zero, List.set_cons_succ]
      refine wpAnyH_take (i := 3) (oi := { dst := some 21, op := Go.Op.binOp Go.BinOp.geq 3 (Go.Operand.tmp 19) (Go.Operand.tmp 20) 3, type := 4, pos := "cursor.go:98", after := #[{ on := 1, ground := Go.Ground.data }, { on := 2, ground := Go.Ground.data }], guard := none }) (v := ?_) rfl (by kernel_rfl) (by kernel_rfl) (by kernel_rfl) (fun _ _ _ h => h) (Or.inl ⟨by rfl, ?hy3b⟩) (by assumption) ?rest3b
      case hy3b => (intro w hSw; (try dsimp only at hSw); go_simp; first | (with_reducible rfl) | (rw [if_neg (by omega)]) | skip)
      simp only [Act.put, List.setIfInBounds_toArray, List.set_cons_zero, List.set_cons_succ]
      refine wpAnyH_take (i := 4) (oi := { dst := some 22, op := Go.Op.move (Go.Operand.tmp 21), type := 4, pos := "cursor.go:98", after := #[{ on := 3, ground := Go.Ground.data }, { on := 1, ground := Go.Ground.chain }], guard := none }) (v := ?_) rfl (by kernel_rfl) (by kernel_rfl) (by kernel_rfl) (fun _ _ _ h => h) (Or.inl ⟨by rfl, ?hy4b⟩) (by assumption) ?rest4b
      case hy4b => (intro w hSw; (try dsimp only at hSw); go_simp; first | (with_reducible rfl) | (rw [if_neg (by omega)]) | skip)
      simp only [Act.put, List.setIfInBounds_toArray, List.set_cons_zero, List.set_cons_succ]
      refine wpAnyH_take (i := 5) (oi := { dst := some 23, op := Go.Op.move (Go.Operand.tmp 0), type := 81, pos := "cursor.go:98", after := #[{ on := 4, ground := Go.Ground.guard }], guard := some (4, false) }) (v := undef) rfl (by kernel_rfl) (by kernel_rfl) (by kernel_rfl) (fun _ _ _ h => h) (Or.inr ⟨by rfl, rfl⟩) (by assumption) ?_
      simp only [Act.put, List.setIfInBounds_toArray, List.set_cons_zero, List.set_cons_succ]
      refine wpAnyH_take (i := 6) (oi := { dst := some 24, op := Go.Op.call { callee := Go.Callee.value (Go.Operand.func 68), args := #[Go.Operand.tmp 23], argTypes := #[81] }, type := 3, pos := "cursor.go:98", after := #[{ on := 5, ground := Go.Ground.data }, { on := 4, ground := Go.Ground.chain }, { on := 4, ground := Go.Ground.guard }], guard := some (4, false) }) (v := undef) rfl (by kernel_rfl) (by kernel_rfl) (by kernel_rfl) (fun _ _ _ h => h) (Or.inr ⟨by rfl, rfl⟩) (by assumption) ?_
      simp only [Act.put, List.setIfInBounds_toArray, List.set_cons_zero, List.set_cons_succ]
      refine wpAnyH_take (i := 7) (oi := { dst := some 25, op := Go.Op.move (Go.Operand.tmp 5), type := 3, pos := "cursor.go:98", after := #[{ on := 4, ground := Go.Ground.guard }], guard := some (4, false) }) (v := undef) rfl (by kernel_rfl) (by kernel_rfl) (by kernel_rfl) (fun _ _ _ h => h) (Or.inr ⟨by rfl, rfl⟩) (by assumption) ?_
      simp only [Act.put, List.setIfInBounds_toArray, List.set_cons_zero, List.set_cons_succ]
      refine wpAnyH_take (i := 8) (oi := { dst := some 26, op := Go.Op.binOp Go.BinOp.gtr 3 (Go.Operand.tmp 24) (Go.Operand.tmp 25) 3, type := 4, pos := "cursor.go:98", after := #[{ on := 6, ground := Go.Ground.data }, { on := 7, ground := Go.Ground.data }, { on := 4, ground := Go.Ground.guard }], guard := some (4, false) }) (v := undef) rfl (by kernel_rfl) (by kernel_rfl) (by kernel_rfl) (fun _ _ _ h => h) (Or.inr ⟨by rfl, rfl⟩) (by assumption) ?_
      simp only [Act.put, List.setIfInBounds_toArray, List.set_cons_zero, List.set_cons_succ]
      refine wpAnyH_take (i := 9) (oi := { dst := some 27, op := Go.Op.pick (Go.Operand.tmp 22) (Go.Operand.const (Go.Value.bool true)) (Go.Operand.tmp 26), type := 4, pos := "cursor.go:98", after := #[{ on := 4, ground := Go.Ground.data }, { on := 8, ground := Go.Ground.data }], guard := none }) (v := ?_) rfl (by kernel_rfl) (by kernel_rfl) (by kernel_rfl) (fun _ _ _ h => h) (Or.inl ⟨by rfl, ?hy9b⟩) (by assumption) ?rest9b
      case hy9b => (intro w hSw; (try dsimp only at hSw); go_simp; first | (with_reducible rfl) | (rw [if_neg (by omega)]) | skip)
      simp only [Act.put, List.setIfInBounds_toArray, List.set_cons_zero, List.set_cons_succ]
      refine wpAnyH_ready (rs := [15]) (by kernel_rfl) (by simp) ?_
      refine AllReadyH.cons (o := { dst := some 33, op := Go.Op.call { callee := Go.Callee.value (Go.Operand.func 68), args := #[Go.Operand.tmp 32], argTypes := #[81] }, type := 3, pos := "cursor.go:98", after := #[{ on := 14, ground := Go.Ground.data }, { on := 6, ground := Go.Ground.chain }], guard := none }) rfl (fun K hK => ?_) AllReadyH.nil
      go_simp
      go_at_call 68; (with_reducible refine (HR.out _ hHeld.2.2.2.1).mono ?_); rintro e wx2 ⟨rfl, hbx2⟩
      refine hK.out _ _ ?_ (fun hHeld => ?_)
      · (try dsimp only); first | exact hHeld | exact keepN hHeld (by assumption) | exact keepN hHeld (below_drewN _ _) | exact keepN S1 (Below.drew (Below.refl _ _))
      clear hK K
      try simp only [Act.put, List.setIfInBounds_toArray, List.set_cons_zero, List.set_cons_succ]
      refine wpAnyH_take (i := 16) (oi := { dst := some 34, op := Go.Op.binOp Go.BinOp.add 3 (Go.Operand.tmp 31) (Go.Operand.tmp 33) 3, type := 3, pos := "cursor.go:98", after := #[{ on := 13, ground := Go.Ground.data }, { on := 15, ground := Go.Ground.data }], guard := none }) (v := ?_) rfl (by kernel_rfl) (by kernel_rfl) (by kernel_rfl) (fun _ _ _ h => h) (Or.inl ⟨by rfl, ?hy16b⟩) (by assumption) ?rest16b
      case hy16b => (intro w hSw; (try dsimp only at hSw); go_simp; first | (with_reducible rfl) | (rw [if_neg (by omega)]) | skip)
      simp only [Act.put, List.setIfInBounds_toArray, List.set_cons_zero, List.set_cons_succ]
      refine wpAnyH_ready (rs := [17]) (by kernel_rfl) (by simp) ?_
      refine AllReadyH.cons (o := { dst := some 35, op := Go.Op.call { callee := Go.Callee.value (Go.Operand.func 92), args := #[Go.Operand.tmp 27, Go.Operand.tmp 34], argTypes := #[4, 3] }, type := 0, pos := "cursor.go:98", after := #[{ on := 9, ground := Go.Ground.data }, { on := 16, ground := Go.Ground.data }, { on := 15, ground := Go.Ground.chain }], guard := none }) rfl (fun K hK => ?_) AllReadyH.nil
      go_simp
      go_at_call 92; (with_reducible refine (need_yes _ _).mono ?_); rintro e w1 ⟨rfl, rfl⟩
      refine hK.out _ _ ?_ (fun hHeld => ?_)
      · (try dsimp only); first | exact hHeld | exact keepN hHeld (by assumption) | exact keepN hHeld (below_drewN _ _) | exact keepN S1 (Below.drew (Below.refl _ _))
      clear hK K
      try simp only [Act.put, List.setIfInBounds_toArray, List.set_cons_zero, List.set_cons_succ]
      refine wpAnyH_done (by kernel_rfl) ?_ _
      refine NoPanic.normal ?_
      obtain ⟨c0, c1, c2, hb3, hz3⟩ := hHeld
      go_wp2_with fail
      exact ⟨rfl, rfl, grown_of_below hb3 _⟩
    · go_enter Tryd.func111, Tryd.ntmps111
      go_upto_region 3 with (fail)
      go_quiet (fail)
      go_upto_region 4 with (fail)
      obtain ⟨W1, hW1⟩ : ∃ W1, W1 = w.drewN nq := ⟨_, rfl⟩
      have S1 := keepN S0 (below_drewN w nq)
      rw [← hW1] at S1 ⊢
      clear hW1 c0 c1 c2
      have hb2 : (l.length : Int) - p < rest p lim := by omega
      refine wp_region_noPanic ?_
      refine wp_region_held_drew (S := (fun W => W.cell? ⟨g, 0, none⟩ = some (.slice A l.length c) ∧ W.cell? ⟨g, 1, none⟩ = some (.int .i64 p) ∧ W.cell? ⟨g, 2, none⟩ = some (.int .i64 lim) ∧ Below w.heap.size w W ∧ w.heap.size ≤ W.heap.size)) (by kernel_rfl) ?hSd (fun hHeld => ?god)
      case hSd => first | exact hHeld | exact keepN hHeld (by assumption) | exact keepN hHeld (below_drewN _ _) | exact keepN S1 (Below.drew (Below.refl _ _))
      refine wpAnyH_take (i := 0) (oi := { dst := some 18, op := Go.Op.move (Go.Operand.tmp 0), type := 81, pos := "cursor.go:98", after := #[], guard := none }) (v := ?_) rfl (by kernel_rfl) (by kernel_rfl) (by kernel_rfl) (fun _ _ _ h => h) (Or.inl ⟨by rfl, ?hy0d⟩) (by assumption) ?rest0d
      case hy0d => (intro w hSw; (try dsimp only at hSw); go_simp; first | (with_reducible rfl) | (rw [if_neg (by omega)]) | skip)
      simp only [Act.put, List.setIfInBounds_toArray, List.set_cons_zero, List.set_cons_succ]
      refine wpAnyH_take (i := 2) (oi := { dst := some 20, op := Go.Op.move (Go.Operand.tmp 1), type := 3, pos := "cursor.go:98", after := #[], guard := none }) (v := ?_) rfl (by kernel_rfl) (by kernel_rfl) (by kernel_rfl) (fun _ _ _ h => h) (Or.inl ⟨by rfl, ?hy2d⟩) (by assumption) ?rest2d
      case hy2d => (intro w hSw; (try dsimp only at hSw); go_simp; first | (with_reducible rfl) | (rw [if_neg (by omega)]) | skip)
      simp only [Act.put, List.setIfInBounds_toArray, List.set_cons_zero, List.set_cons_succ]
      refine wpAnyH_take (i := 10) (oi := { dst := some 28, op := Go.Op.move (Go.Operand.tmp 0), type := 81, pos := "cursor.go:98", after := #[], guard := none }) (v := ?_) rfl (by kernel_rfl) (by kernel_rfl) (by kernel_rfl) (fun _ _ _ h => h) (Or.inl ⟨by rfl, ?hy10d⟩) (by assumption) ?rest10d
      case hy10d => (intro w hSw; (try dsimp only at hSw); go_simp; first | (with_reducible rfl) | (rw [if_neg (by omega)]) | skip)
      simp only [Act.put, List.setIfInBounds_toArray, List.set_cons_zero, List.set_cons_succ]
      refine wpAnyH_take (i := 11) (oi := { dst := some 29, op := Go.Op.nilCheck (Go.Operand.tmp 28), type := 0, pos := "cursor.go:98", after := #[{ on := 10, ground := Go.Ground.data }], guard := none }) (v := ?_) rfl (by kernel_rfl) (by kernel_rfl) (by kernel_rfl) (fun _ _ _ h => h) (Or.inl ⟨by rfl, ?hy11d⟩) (by assumption) ?rest11d
      case hy11d => (intro w hSw; (try dsimp only at hSw); go_simp; first | (with_reducible rfl) | (rw [if_neg (by omega)]) | skip)
      simp only [Act.put, List.setIfInBounds_toArray, List.set_cons_zero, List.set_cons_succ]
      refine wpAnyH_take (i := 12) (oi := { dst := some 30, op := Go.Op.fieldAddr 136 (Go.Operand.tmp 29) 1, type := 0, pos := "cursor.go:98", after := #[{ on := 11, ground := Go.Ground.data }], guard := none }) (v := ?_) rfl (by kernel_rfl) (by kernel_rfl) (by kernel_rfl) (fun _ _ _ h => h) (Or.inl ⟨by rfl, ?hy12d⟩) (by assumption) ?rest12d
      case hy12d => (intro w hSw; (try dsimp only at hSw); go_simp; first | (with_reducible rfl) | (rw [if_neg (by omega)]) | skip)
      simp only [Act.put, List.setIfInBounds_toArray, List.set_cons_zero, List.set_cons_succ]
      refine wpAnyH_take (i := 13) (oi := { dst := some 31, op := Go.Op.load 3 (Go.Operand.tmp 30), type := 3, pos := "cursor.go:98", after := #[{ on := 12, ground := Go.Ground.data }], guard := none }) (v := ?_) rfl (by kernel_rfl) (by kernel_rfl) (by kernel_rfl) (fun _ _ _ h => h) (Or.inl ⟨by rfl, ?hy13d⟩) (by assumption) ?rest13d
      case hy13d => (intro w hSw; (try dsimp only at hSw); go_simp; first | (with_reducible rfl) | (rw [if_neg (by omega)]) | skip)
      simp only [Act.put, List.setIfInBounds_toArray, List.set_cons_zero, List.set_cons_succ]
      refine wpAnyH_take (i := 14) (oi := { dst := some 32, op := Go.Op.move (Go.Operand.tmp 0), type := 81, pos := "cursor.go:98", after := #[], guard := none }) (v := ?_) rfl (by kernel_rfl) (by kernel_rfl) (by kernel_rfl) (fun _ _ _ h => h) (Or.inl ⟨by rfl, ?hy14d⟩) (by assumption) ?rest14d
      case hy14d => (intro w hSw; (try dsimp only at hSw); go_simp; first | (with_reducible rfl) | (rw [if_neg (by omega)]) | skip)
      simp only [Act.put, List.setIfInBounds_toArray, List.set_cons_zero, List.set_cons_succ]
      refine wpAnyH_ready (rs := [1]) (by kernel_rfl) (by simp) ?_
      refine AllReadyH.cons (o := { dst := some 19, op := Go.Op.call { callee := Go.Callee.value (Go.Operand.func 68), args := #[Go.Operand.tmp 18], argTypes := #[81] }, type := 3, pos := "cursor.go:98", after := #[{ on := 0, ground := Go.Ground.data }], guard := none }) rfl (fun K hK => ?_) AllReadyH.nil
      go_simp
      go_at_call 68; (with_reducible refine (HR.out _ hHeld.2.2.2.1).mono ?_); rintro e wx1 ⟨rfl, hbx1⟩
      refine hK.out _ _ ?_ (fun hHeld => ?_)
      · (try dsimp only); first | exact hHeld | exact keepN hHeld (by assumption) | exact keepN hHeld (below_drewN _ _) | exact keepN S1 (Below.drew (Below.refl _ _))
      clear hK K
      try simp only [Act.put, List.setIfInBounds_toArray, List.set_cons_zero, List.set_cons_succ]
      refine wpAnyH_take (i := 3) (oi := { dst := some 21, op := Go.Op.binOp Go.BinOp.geq 3 (Go.Operand.tmp 19) (Go.Operand.tmp 20) 3, type := 4, pos := "cursor.go:98", after := #[{ on := 1, ground := Go.Ground.data }, { on := 2, ground := Go.Ground.data }], guard := none }) (v := ?_) rfl (by kernel_rfl) (by kernel_rfl) (by kernel_rfl) (fun _ _ _ h => h) (Or.inl ⟨by rfl, ?hy3d⟩) (by assumption) ?rest3d
      case hy3d => (intro w hSw; (try dsimp only at hSw); go_simp; first | (with_reducible rfl) | (rw [if_neg (by omega)]) | skip)
      simp only [Act.put, List.setIfInBounds_toArray, List.set_cons_zero, List.set_cons_succ]
      refine wpAnyH_take (i := 4) (oi := { dst := some 22, op := Go.Op.move (Go.Operand.tmp 21), type := 4, pos := "cursor.go:98", after := #[{ on := 3, ground := Go.Ground.data }, { on := 1, ground := Go.Ground.chain }], guard := none }) (v := ?_) rfl (by kernel_rfl) (by kernel_rfl) (by kernel_rfl) (fun _ _ _ h => h) (Or.inl ⟨by rfl, ?hy4d⟩) (by assumption) ?rest4d
      case hy4d => (intro w hSw; (try dsimp only at hSw); go_simp; first | (with_reducible rfl) | (rw [if_neg (by omega)]) | skip)
      simp only [Act.put, List.setIfInBounds_toArray, List.set_cons_zero, List.set_cons_succ]
      refine wpAnyH_take (i := 5) (oi := { dst := some 23, op := Go.Op.move (Go.Operand.tmp 0), type := 81, pos := "cursor.go:98", after := #[{ on := 4, ground := Go.Ground.guard }], guard := some (4, false) }) (v := ?_) rfl (by kernel_rfl) (by kernel_rfl) (by kernel_rfl) (fun _ _ _ h => h) (Or.inl ⟨by rfl, ?hy5d⟩) (by assumption) ?rest5d
      case hy5d => (intro w hSw; (try dsimp only at hSw); go_simp; first | (with_reducible rfl) | (rw [if_neg (by omega)]) | skip)
      simp only [Act.put, List.setIfInBounds_toArray, List.set_cons_zero, List.set_cons_succ]
      refine wpAnyH_take (i := 7) (oi := { dst := some 25, op := Go.Op.move (Go.Operand.tmp 5), type := 3, pos := "cursor.go:98", after := #[{ on := 4, ground := Go.Ground.guard }], guard := some (4, false) }) (v := ?_) rfl (by kernel_rfl) (by kernel_rfl) (by kernel_rfl) (fun _ _ _ h => h) (Or.inl ⟨by rfl, ?hy7d⟩) (by assumption) ?rest7d
      case hy7d => (intro w hSw; (try dsimp only at hSw); go_simp; first | (with_reducible rfl) | (rw [if_neg (by omega)]) | skip)
      simp only [Act.put, List.setIfInBounds_toArray, List.set_cons_zero, List.set_cons_succ]
      refine wpAnyH_ready (rs := [6]) (by kernel_rfl) (by simp) ?_
      refine AllReadyH.cons (o := { dst := some 24, op := Go.Op.call { callee := Go.Callee.value (Go.Operand.func 68), args := #[Go.Operand.tmp 23], argTypes := #[81] }, type := 3, pos := "cursor.go:98", after := #[{ on := 5, ground := Go.Ground.data }, { on := 4, ground := Go.Ground.chain }, { on := 4, ground := Go.Ground.guard }], guard := some (4, false) }) rfl (fun K hK => ?_) AllReadyH.nil
      go_simp
      go_at_call 68; (with_reducible refine (HR.out _ hHeld.2.2.2.1).mono ?_); rintro e wx2 ⟨rfl, hbx2⟩
      refine hK.out _ _ ?_ (fun hHeld => ?_)
      · (try dsimp only); first | exact hHeld | exact keepN hHeld (by assumption) | exact keepN hHeld (below_drewN _ _) | exact keepN S1 (Below.drew (Below.refl _ _))
      clear hK K
      try simp only [Act.put, List.setIfInBounds_toArray, List.set_cons_zero, List.set_cons_succ]
      refine wpAnyH_take (i := 8) (oi := { dst := some 26, op := Go.Op.binOp Go.BinOp.gtr 3 (Go.Operand.tmp 24) (Go.Operand.tmp 25) 3, type := 4, pos := "cursor.go:98", after := #[{ on := 6, ground := Go.Ground.data }, { on := 7, ground := Go.Ground.data }, { on := 4, ground := Go.Ground.guard }], guard := some (4, false) }) (v := ?_) rfl (by kernel_rfl) (by kernel_rfl) (by kernel_rfl) (fun _ _ _ h => h) (Or.inl ⟨by rfl, ?hy8d⟩) (by assumption) ?rest8d
      case hy8d => (intro w hSw; (try dsimp only at hSw); go_simp; first | (with_reducible rfl) | (rw [if_neg (by omega)]) | skip)
      simp only [Act.put, List.setIfInBounds_toArray, List.set_cons_zero, List.set_cons_succ]
      refine wpAnyH_take (i := 9) (oi := { dst := some 27, op := Go.Op.pick (Go.Operand.tmp 22) (Go.Operand.const (Go.Value.bool true)) (Go.Operand.tmp 26), type := 4, pos := "cursor.go:98", after := #[{ on := 4, ground := Go.Ground.data }, { on := 8, ground := Go.Ground.data }], guard := none }) (v := ?_) rfl (by kernel_rfl) (by kernel_rfl) (by kernel_rfl) (fun _ _ _ h => h) (Or.inl ⟨by rfl, ?hy9d⟩) (by assumption) ?rest9d
      case hy9d => (intro w hSw; (try dsimp only at hSw); go_simp; first | (with_reducible rfl) | (rw [if_neg (by omega)]) | skip)
      simp only [Act.put, List.setIfInBounds_toArray, List.set_cons_zero, List.set_cons_succ]
      refine wpAnyH_ready (rs := [15]) (by kernel_rfl) (by simp) ?_
      refine AllReadyH.cons (o := { dst := some 33, op := Go.Op.call { callee := Go.Callee.value (Go.Operand.func 68), args := #[Go.Operand.tmp 32], argTypes := #[81] }, type := 3, pos := "cursor.go:98", after := #[{ on := 14, ground := Go.Ground.data }, { on := 6, ground := Go.Ground.chain }], guard := none }) rfl (fun K hK => ?_) AllReadyH.nil
      go_simp
      go_at_call 68; (with_reducible refine (HR.out _ hHeld.2.2.2.1).mono ?_); rintro e wx3 ⟨rfl, hbx3⟩
      refine hK.out _ _ ?_ (fun hHeld => ?_)
      · (try dsimp only); first | exact hHeld | exact keepN hHeld (by assumption) | exact keepN hHeld (below_drewN _ _) | exact keepN S1 (Below.drew (Below.refl _ _))
      clear hK K
      try simp only [Act.put, List.setIfInBounds_toArray, List.set_cons_zero, List.set_cons_succ]
      refine wpAnyH_take (i := 16) (oi := { dst := some 34, op := Go.Op.binOp Go.BinOp.add 3 (Go.Operand.tmp 31) (Go.Operand.tmp 33) 3, type := 3, pos := "cursor.go:98", after := #[{ on := 13, ground := Go.Ground.data }, { on := 15, ground := Go.Ground.data }], guard := none }) (v := ?_) rfl (by kernel_rfl) (by kernel_rfl) (by kernel_rfl) (fun _ _ _ h => h) (Or.inl ⟨by rfl, ?hy16d⟩) (by assumption) ?rest16d
      case hy16d => (intro w hSw; (try dsimp only at hSw); go_simp; first | (with_reducible rfl) | (rw [if_neg (by omega)]) | skip)
      simp only [Act.put, List.setIfInBounds_toArray, List.set_cons_zero, List.set_cons_succ]
      refine wpAnyH_ready (rs := [17]) (by kernel_rfl) (by simp) ?_
      refine AllReadyH.cons (o := { dst := some 35, op := Go.Op.call { callee := Go.Callee.value (Go.Operand.func 92), args := #[Go.Operand.tmp 27, Go.Operand.tmp 34], argTypes := #[4, 3] }, type := 0, pos := "cursor.go:98", after := #[{ on := 9, ground := Go.Ground.data }, { on := 16, ground := Go.Ground.data }, { on := 15, ground := Go.Ground.chain }], guard := none }) rfl (fun K hK => ?_) AllReadyH.nil
      go_simp
      go_at_call 92; (with_reducible refine (need_yes _ _).mono ?_); rintro e w1 ⟨rfl, rfl⟩
      refine hK.out _ _ ?_ (fun hHeld => ?_)
      · (try dsimp only); first | exact hHeld | exact keepN hHeld (by assumption) | exact keepN hHeld (below_drewN _ _) | exact keepN S1 (Below.drew (Below.refl _ _))
      clear hK K
      try simp only [Act.put, List.setIfInBounds_toArray, List.set_cons_zero, List.set_cons_succ]
      refine wpAnyH_done (by kernel_rfl) ?_ _
      refine NoPanic.normal ?_
      obtain ⟨c0, c1, c2, hb3, hz3⟩ := hHeld
      go_wp2_with fail
      exact ⟨rfl, rfl, grown_of_below hb3 _⟩
  have e : rawM l p lim n = .ok ((l.drop p.toNat).take n.toNat, p + n) := by rw [rawM, if_neg h0, if_neg hb, if_neg hlt]
  rw [e]
  clear e
  by_cases hge : n ≤ rest p lim
  · go_enter Tryd.func111, Tryd.ntmps111
    go_upto_region 3 with (fail)
    go_quiet (fail)
    go_upto_region 4 with (fail)
    obtain ⟨W1, hW1⟩ : ∃ W1, W1 = w.drewN nq := ⟨_, rfl⟩
    have S1 := keepN S0 (below_drewN w nq)
    rw [← hW1] at S1 ⊢
    clear hW1 c0 c1 c2
    refine wp_region_noPanic ?_
    refine wp_region_held_drew (S := (fun W => W.cell? ⟨g, 0, none⟩ = some (.slice A l.length c) ∧ W.cell? ⟨g, 1, none⟩ = some (.int .i64 p) ∧ W.cell? ⟨g, 2, none⟩ = some (.int .i64 lim) ∧ Below w.heap.size w W ∧ w.heap.size ≤ W.heap.size)) (by kernel_rfl) ?hSe (fun hHeld => ?goe)
    case hSe => first | exact hHeld | exact keepN hHeld (by assumption) | exact keepN hHeld (below_drewN _ _) | exact keepN S1 (Below.drew (Below.refl _ _))
    refine wpAnyH_take (i := 0) (oi := { dst := some 18, op := Go.Op.move (Go.Operand.tmp 0), type := 81, pos := "cursor.go:98", after := #[], guard := none }) (v := ?_) rfl (by kernel_rfl) (by kernel_rfl) (by kernel_rfl) (fun _ _ _ h => h) (Or.inl ⟨by rfl, ?hy0e⟩) (by assumption) ?rest0e
    case hy0e => (intro w hSw; (try dsimp only at hSw); go_simp; first | (with_reducible rfl) | (rw [if_neg (by omega)]) | skip)
    simp only [Act.put, List.setIfInBounds_toArray, List.set_cons_zero, List.set_cons_succ]
    refine wpAnyH_take (i := 2) (oi := { dst := some 20, op := Go.Op.move (Go.Operand.tmp 1), type := 3, pos := "cursor.go:98", after := #[], guard := none }) (v := ?_) rfl (by kernel_rfl) (by kernel_rfl) (by kernel_rfl) (fun _ _ _ h => h) (Or.inl ⟨by rfl, ?hy2e⟩) (by assumption) ?rest2e
    case hy2e => (intro w hSw; (try dsimp only at hSw); go_simp; first | (with_reducible rfl) | (rw [if_neg (by omega)]) | skip)
    simp only [Act.put, List.setIfInBounds_toArray, List.set_cons_zero, List.set_cons_succ]
    refine wpAnyH_take (i := 10) (oi := { dst := some 28, op := Go.Op.move (Go.Operand.tmp 0), type := 81, pos := "cursor.go:98", after := #[], guard := none }) (v := ?_) rfl (by kernel_rfl) (by kernel_rfl) (by kernel_rfl) (fun _ _ _ h => h) (Or.inl ⟨by rfl, ?hy10e⟩) (by assumption) ?rest10e
    case hy10e => (intro w hSw; (try dsimp only at hSw); go_simp; first | (with_reducible rfl) | (rw [if_neg (by omega)]) | skip)
    simp only [Act.put, List.setIfInBounds_toArray, List.set_cons_zero, List.set_cons_succ]
    refine wpAnyH_take (i := 11) (oi := { dst := some 29, op := Go.Op.nilCheck (Go.Operand.tmp 28), type := 0, pos := "cursor.go:98", after := #[{ on := 10, ground := Go.Ground.data }], guard := none }) (v := ?_) rfl (by kernel_rfl) (by kernel_rfl) (by kernel_rfl) (fun _ _ _ h => h) (Or.inl ⟨by rfl, ?hy11e⟩) (by assumption) ?rest11e
    case hy11e => (intro w hSw; (try dsimp only at hSw); go_simp; first | (with_reducible rfl) | (rw [if_neg (by omega)]) | skip)
    simp only [Act.put, List.setIfInBounds_toArray, List.set_cons_zero, List.set_cons_succ]
    refine wpAnyH_take (i := 12) (oi := { dst := some 30, op := Go.Op.fieldAddr 136 (Go.Operand.tmp 29) 1, type := 0, pos := "cursor.go:98", after := #[{ on := 11, ground := Go.Ground.data }], guard := none }) (v := ?_) rfl (by kernel_rfl) (by kernel_rfl) (by kernel_rfl) (fun _ _ _ h => h) (Or.inl ⟨by rfl, ?hy12e⟩) (by assumption) ?rest12e
    case hy12e => (intro w hSw; (try dsimp only at hSw); go_simp; first | (with_reducible rfl) | (rw [if_neg (by omega)]) | skip)
    simp only [Act.put, List.setIfInBounds_toArray, List.set_cons_zero, List.set_cons_succ]
    refine wpAnyH_take (i := 13) (oi := { dst := some 31, op := Go.Op.load 3 (Go.Operand.tmp 30), type := 3, pos := "cursor.go:98", after := #[{ on := 12, ground := Go.Ground.data }], guard := none }) (v := ?_) rfl (by kernel_rfl) (by kernel_rfl) (by kernel_rfl) (fun _ _ _ h => h) (Or.inl ⟨by rfl, ?hy13e⟩) (by assumption) ?rest13e
    case hy13e => (intro w hSw; (try dsimp only at hSw); go_simp; first | (with_reducible rfl) | (rw [if_neg (by omega)]) | skip)
    simp only [Act.put, List.setIfInBounds_toArray, List.set_cons_zero, List.set_cons_succ]
    refine wpAnyH_take (i := 14) (oi := { dst := some 32, op := Go.Op.move (Go.Operand.tmp 0), type := 81, pos := "cursor.go:98", after := #[], guard := none }) (v := ?_) rfl (by kernel_rfl) (by kernel_rfl) (by kernel_rfl) (fun _ _ _ h => h) (Or.inl ⟨by rfl, ?hy14e⟩) (by assumption) ?rest14e
    case hy14e => (intro w hSw; (try dsimp only at hSw); go_simp; first | (with_reducible rfl) | (rw [if_neg (by omega)]) | skip)
    simp only [Act.put, List.setIfInBounds_toArray, List.set_cons_zero, List.set_cons_succ]
    refine wpAnyH_ready (rs := [1]) (by kernel_rfl) (by simp) ?_
    refine AllReadyH.cons (o := { dst := some 19, op := Go.Op.call { callee := Go.Callee.value (Go.Operand.func 68), args := #[Go.Operand.tmp 18], argTypes := #[81] }, type := 3, pos := "cursor.go:98", after := #[{ on := 0, ground := Go.Ground.data }], guard := none }) rfl (fun K hK => ?_) AllReadyH.nil
    go_simp
    go_at_call 68; (with_reducible refine (HR.out _ hHeld.2.2.2.1).mono ?_); rintro e wx1 ⟨rfl, hbx1⟩
    refine hK.out _ _ ?_ (fun hHeld => ?_)
    · (try dsimp only); first | exact hHeld | exact keepN hHeld (by assumption) | exact keepN hHeld (below_drewN _ _) | exact keepN S1 (Below.drew (Below.refl _ _))
    clear hK K
    try simp only [Act.put, List.setIfInBounds_toArray, List.set_cons_zero, List.set_cons_succ]
    refine wpAnyH_take (i := 3) (oi := { dst := some 21, op := Go.Op.binOp Go.BinOp.geq 3 (Go.Operand.tmp 19) (Go.Operand.tmp 20) 3, type := 4, pos := "cursor.go:98", after := #[{ on := 1, ground := Go.Ground.data }, { on := 2, ground := Go.Ground.data }], guard := none }) (v := ?_) rfl (by kernel_rfl) (by kernel_rfl) (by kernel_rfl) (fun _ _ _ h => h) (Or.inl ⟨by rfl, ?hy3e⟩) (by assumption) ?rest3e
    case hy3e => (intro w hSw; (try dsimp only at hSw); go_simp; first | (with_reducible rfl) | (rw [if_neg (by omega)]) | skip)
    simp only [Act.put, List.setIfInBounds_toArray, List.set_cons_zero, List.set_cons_succ]
    refine wpAnyH_take (i := 4) (oi := { dst := some 22, op := Go.Op.move (Go.Operand.tmp 21), type := 4, pos := "cursor.go:98", after := #[{ on := 3, ground := Go.Ground.data }, { on := 1, ground := Go.Ground.chain }], guard := none }) (v := ?_) rfl (by kernel_rfl) (by kernel_rfl) (by kernel_rfl) (fun _ _ _ h => h) (Or.inl ⟨by rfl, ?hy4e⟩) (by assumption) ?rest4e
    case hy4e => (intro w hSw; (try dsimp only at hSw); go_simp; first | (with_reducible rfl) | (rw [if_neg (by omega)]) | skip)
    simp only [Act.put, List.setIfInBounds_toArray, List.set_cons_zero, List.set_cons_succ]
    refine wpAnyH_take (i := 5) (oi := { dst := some 23, op := Go.Op.move (Go.Operand.tmp 0), type := 81, pos := "cursor.go:98", after := #[{ on := 4, ground := Go.Ground.guard }], guard := some (4, false) }) (v := undef) rfl (by kernel_rfl) (by kernel_rfl) (by kernel_rfl) (fun _ _ _ h => h) (Or.inr ⟨by rfl, rfl⟩) (by assumption) ?_
    simp only [Act.put, List.setIfInBounds_toArray, List.set_cons_zero, List.set_cons_succ]
    refine wpAnyH_take (i := 6) (oi := { dst := some 24, op := Go.Op.call { callee := Go.Callee.value (Go.Operand.func 68), args := #[Go.Operand.tmp 23], argTypes := #[81] }, type := 3, pos := "cursor.go:98", after := #[{ on := 5, ground := Go.Ground.data }, { on := 4, ground := Go.Ground.chain }, { on := 4, ground := Go.Ground.guard }], guard := some (4, false) }) (v := undef) rfl (by kernel_rfl) (by kernel_rfl) (by kernel_rfl) (fun _ _ _ h => h) (Or.inr ⟨by rfl, rfl⟩) (by assumption) ?_
    simp only [Act.put, List.setIfInBounds_toArray, List.set_cons_zero, List.set_cons_succ]
    refine wpAnyH_take (i := 7) (oi := { dst := some 25, op := Go.Op.move (Go.Operand.tmp 5), type := 3, pos := "cursor.go:98", after := #[{ on := 4, ground := Go.Ground.guard }], guard := some (4, false) }) (v := undef) rfl (by kernel_rfl) (by kernel_rfl) (by kernel_rfl) (fun _ _ _ h => h) (Or.inr ⟨by rfl, rfl⟩) (by assumption) ?_
    simp only [Act.put, List.setIfInBounds_toArray, List.set_cons_zero, List.set_cons_succ]
    refine wpAnyH_take (i := 8) (oi := { dst := some 26, op := Go.Op.binOp Go.BinOp.gtr 3 (Go.Operand.tmp 24) (Go.Operand.tmp 25) 3, type := 4, pos := "cursor.go:98", after := #[{ on := 6, ground := Go.Ground.data }, { on := 7, ground := Go.Ground.data }, { on := 4, ground := Go.Ground.guard }], guard := some (4, false) }) (v := undef) rfl (by kernel_rfl) (by kernel_rfl) (by kernel_rfl) (fun _ _ _ h => h) (Or.inr ⟨by rfl, rfl⟩) (by assumption) ?_
    simp only [Act.put, List.setIfInBounds_toArray, List.set_cons_zero, List.set_cons_succ]
    refine wpAnyH_take (i := 9) (oi := { dst := some 27, op := Go.Op.pick (Go.Operand.tmp 22) (Go.Operand.const (Go.Value.bool true)) (Go.Operand.tmp 26), type := 4, pos := "cursor.go:98", after := #[{ on := 4, ground := Go.Ground.data }, { on := 8, ground := Go.Ground.data }], guard := none }) (v := ?_) rfl (by kernel_rfl) (by kernel_rfl) (by kernel_rfl) (fun _ _ _ h => h) (Or.inl ⟨by rfl, ?hy9e⟩) (by assumption) ?rest9e
    case hy9e => (intro w hSw; (try dsimp only at hSw); go_simp; first | (with_reducible rfl) | (rw [if_neg (by omega)]) | skip)
    simp only [Act.put, List.setIfInBounds_toArray, List.set_cons_zero, List.set_cons_succ]
    refine wpAnyH_ready (rs := [15]) (by kernel_rfl) (by simp) ?_
    refine AllReadyH.cons (o := { dst := some 33, op := Go.Op.call { callee := Go.Callee.value (Go.Operand.func 68), args := #[Go.Operand.tmp 32], argTypes := #[81] }, type := 3, pos := "cursor.go:98", after := #[{ on := 14, ground := Go.Ground.data }, { on := 6, ground := Go.Ground.chain }], guard := none }) rfl (fun K hK => ?_) AllReadyH.nil
    go_simp
    go_at_call 68; (with_reducible refine (HR.out _ hHeld.2.2.2.1).mono ?_); rintro e wx2 ⟨rfl, hbx2⟩
    refine hK.out _ _ ?_ (fun hHeld => ?_)
    · (try dsimp only); first | exact hHeld | exact keepN hHeld (by assumption) | exact keepN hHeld (below_drewN _ _) | exact keepN S1 (Below.drew (Below.refl _ _))
    clear hK K
    try simp only [Act.put, List.setIfInBounds_toArray, List.set_cons_zero, List.set_cons_succ]
    refine wpAnyH_take (i := 16) (oi := { dst := some 34, op := Go.Op.binOp Go.BinOp.add 3 (Go.Operand.tmp 31) (Go.Operand.tmp 33) 3, type := 3, pos := "cursor.go:98", after := #[{ on := 13, ground := Go.Ground.data }, { on := 15, ground := Go.Ground.data }], guard := none }) (v := ?_) rfl (by kernel_rfl) (by kernel_rfl) (by kernel_rfl) (fun _ _ _ h => h) (Or.inl ⟨by rfl, ?hy16e⟩) (by assumption) ?rest16e
    case hy16e => (intro w hSw; (try dsimp only at hSw); go_simp; first | (with_reducible rfl) | (rw [if_neg (by omega)]) | skip)
    simp only [Act.put, List.setIfInBounds_toArray, List.set_cons_zero, List.set_cons_succ]
    refine wpAnyH_ready (rs := [17]) (by kernel_rfl) (by simp) ?_
    refine AllReadyH.cons (o := { dst := some 35, op := Go.Op.call { callee := Go.Callee.value (Go.Operand.func 92), args := #[Go.Operand.tmp 27, Go.Operand.tmp 34], argTypes := #[4, 3] }, type := 0, pos := "cursor.go:98", after := #[{ on := 9, ground := Go.Ground.data }, { on := 16, ground := Go.Ground.data }, { on := 15, ground := Go.Ground.chain }], guard := none }) rfl (fun K hK => ?_) AllReadyH.nil
    go_simp
    go_at_call 92; (with_reducible refine (need_yes _ _).mono ?_); rintro e w1 ⟨rfl, rfl⟩
    refine hK.out _ _ ?_ (fun hHeld => ?_)
    · (try dsimp only); first | exact hHeld | exact keepN hHeld (by assumption) | exact keepN hHeld (below_drewN _ _) | exact keepN S1 (Below.drew (Below.refl _ _))
    clear hK K
    try simp only [Act.put, List.setIfInBounds_toArray, List.set_cons_zero, List.set_cons_succ]
    refine wpAnyH_done (by kernel_rfl) ?_ _
    refine NoPanic.normal ?_
    obtain ⟨c0, c1, c2, hb3, hz3⟩ := hHeld
    have HC1 := hid (h.below hb3)
    have k1 := HC1.out.cu.f1
    go_upto_region 8 with (fail)
    obtain ⟨hm, hg⟩ := moved HC1.out.cu 0 0 (p + n)
    obtain ⟨W2, hW2⟩ : ∃ W2, W2 = w1.setCell ⟨g, 1, none⟩ (.int .i64 (p + n)) := ⟨_, rfl⟩
    have HC2 := hid (show CB g A c l (p + n) lim W2 by rw [hW2]; exact HC1.out.rd hg hm (by omega) (by omega) (by have := h.l2; omega))
    have HG2 := hid (show Rd g w W2 by rw [hW2]; exact (grown_of_below hb3 _).trans hg)
    rw [← hW2]
    clear hW2 hm hg c0 c1 c2 k1
    have c0 := HC2.out.cu.c0
    have c1 := HC2.out.cu.c1
    obtain ⟨ad, rfl, hat⟩ : ∃ ad, A = some ad ∧ ∀ (j : Nat) (x : Int), l[j]? = some x → W2.cell? (ad.add j) = some (.int .u8 x) := by
      rcases HC2.out.at_ with q | q
      · rw [q] at hlt; simp at hlt; omega
      · exact q
    have HCV := hid (fun (a : Nat) => conv_sub (w := W2.drewN a) hat p.toNat n.toNat (c - p.toNat) (by omega))
    have hwp : IntKind.i64.wrap p = p := by rw [IntKind.wrap_i64]; omega
    clear hat
    refine wp_region_quiet_lit (by kernel_rfl) (by kernel_rfl) ?_
    iterate 14 (quiet_step (fail))
    refine wpQuiet_step (fun K hK => ?_)
    go_simp
    refine ⟨.slice (some (ad.add p.toNat)) n.toNat (c - p.toNat), fun a => ?_, hK _ ?_⟩
    · rw [if_pos (show 0 ≤ p + n ∧ p + n ≤ c by omega), if_pos (show p ≤ max (p + n) 0 by omega), if_neg (show ¬ c = p.toNat by omega), show (p + n).toNat - p.toNat = n.toNat by omega]
      exact ⟨rfl, rfl⟩
    clear hK K
    refine wpQuiet_step (fun K hK => ?_)
    go_simp
    refine ⟨.string (strOfNums ((l.drop p.toNat).take n.toNat)), fun a => ?_, hK _ ?_⟩
    · rw [HCV.out a]
      exact ⟨rfl, rfl⟩
    clear hK K
    quiet_step (fail)
    refine wpQuiet_nil ?_
    intro _ hw'
    obtain ⟨nq2, hw''⟩ := hw'
    subst hw''
    go_wp2_with fail
    go_ret
    exact ⟨rfl, HC2.out.below (below_drewN _ _), HG2.out.trans (grown_of_below (below_drewN _ _) _)⟩
  · go_enter Tryd.func111, Tryd.ntmps111
    go_upto_region 3 with (fail)
    go_quiet (fail)
    go_upto_region 4 with (fail)
    obtain ⟨W1, hW1⟩ : ∃ W1, W1 = w.drewN nq := ⟨_, rfl⟩
    have S1 := keepN S0 (below_drewN w nq)
    rw [← hW1] at S1 ⊢
    clear hW1 c0 c1 c2
    have hb2 : (l.length : Int) - p < rest p lim := by omega
    refine wp_region_noPanic ?_
    refine wp_region_held_drew (S := (fun W => W.cell? ⟨g, 0, none⟩ = some (.slice A l.length c) ∧ W.cell? ⟨g, 1, none⟩ = some (.int .i64 p) ∧ W.cell? ⟨g, 2, none⟩ = some (.int .i64 lim) ∧ Below w.heap.size w W ∧ w.heap.size ≤ W.heap.size)) (by kernel_rfl) ?hSf (fun hHeld => ?gof)
    case hSf => first | exact hHeld | exact keepN hHeld (by assumption) | exact keepN hHeld (below_drewN _ _) | exact keepN S1 (Below.drew (Below.refl _ _))
    refine wpAnyH_take (i := 0) (oi := { dst := some 18, op := Go.Op.move (Go.Operand.tmp 0), type := 81, pos := "cursor.go:98", after := #[], guard := none }) (v := ?_) rfl (by kernel_rfl) (by kernel_rfl) (by kernel_rfl) (fun _ _ _ h => h) (Or.inl ⟨by rfl, ?hy0f⟩) (by assumption) ?rest0f
    case hy0f => (intro w hSw; (try dsimp only at hSw); go_simp; first | (with_reducible rfl) | (rw [if_neg (by omega)]) | skip)
    simp only [Act.put, List.setIfInBounds_toArray, List.set_cons_zero, List.set_cons_succ]
    refine wpAnyH_take (i := 2) (oi := { dst := some 20, op := Go.Op.move (Go.Operand.tmp 1), type := 3, pos := "cursor.go:98", after := #[], guard := none }) (v := ?_) rfl (by kernel_rfl) (by kernel_rfl) (by kernel_rfl) (fun _ _ _ h => h) (Or.inl ⟨by rfl, ?hy2f⟩) (by assumption) ?rest2f
    case hy2f => (intro w hSw; (try dsimp only at hSw); go_simp; first | (with_reducible rfl) | (rw [if_neg (by omega)]) | skip)
    simp only [Act.put, List.setIfInBounds_toArray, List.set_cons_zero, List.set_cons_succ]
    refine wpAnyH_take (i := 10) (oi := { dst := some 28, op := Go.Op.move (Go.Operand.tmp 0), type := 81, pos := "cursor.go:98", after := #[], guard := none }) (v := ?_) rfl (by kernel_rfl) (by kernel_rfl) (by kernel_rfl) (fun _ _ _ h => h) (Or.inl ⟨by rfl, ?hy10f⟩) (by assumption) ?rest10f
    case hy10f => (intro w hSw; (try dsimp only at hSw); go_simp; first | (with_reducible rfl) | (rw [if_neg (by omega)]) | skip)
    simp only [Act.put, List.setIfInBounds_toArray, List.set_cons_zero, List.set_cons_succ]
    refine wpAnyH_take (i := 11) (oi := { dst := some 29, op := Go.Op.nilCheck (Go.Operand.tmp 28), type := 0, pos := "cursor.go:98", after := #[{ on := 10, ground := Go.Ground.data }], guard := none }) (v := ?_) rfl (by kernel_rfl) (by kernel_rfl) (by kernel_rfl) (fun _ _ _ h => h) (Or.inl ⟨by rfl, ?hy11f⟩) (by assumption) ?rest11f
    case hy11f => (intro w hSw; (try dsimp only at hSw); go_simp; first | (with_reducible rfl) | (rw [if_neg (by omega)]) | skip)
    simp only [Act.put, List.setIfInBounds_toArray, List.set_cons_zero, List.set_cons_succ]
    refine wpAnyH_take (i := 12) (oi := { dst := some 30, op := Go.Op.fieldAddr 136 (Go.Operand.tmp 29) 1, type := 0, pos := "cursor.go:98", after := #[{ on := 11, ground := Go.Ground.data }], guard := none }) (v := ?_) rfl (by kernel_rfl) (by kernel_rfl) (by kernel_rfl) (fun _ _ _ h => h) (Or.inl ⟨by rfl, ?hy12f⟩) (by assumption) ?rest12f
    case hy12f => (intro w hSw; (try dsimp only at hSw); go_simp; first | (with_reducible rfl) | (rw [if_neg (by omega)]) | skip)
    simp only [Act.put, List.setIfInBounds_toArray, List.set_cons_zero, List.set_cons_succ]
    refine wpAnyH_take (i := 13) (oi := { dst := some 31, op := Go.Op.load 3 (Go.Operand.tmp 30), type := 3, pos := "cursor.go:98", after := #[{ on := 12, ground := Go.Ground.data }], guard := none }) (v := ?_) rfl (by kernel_rfl) (by kernel_rfl) (by kernel_rfl) (fun _ _ _ h => h) (Or.inl ⟨by rfl, ?hy13f⟩) (by assumption) ?rest13f
    case hy13f => (intro w hSw; (try dsimp only at hSw); go_simp; first | (with_reducible rfl) | (rw [if_neg (by omega)]) | skip)
    simp only [Act.put, List.setIfInBounds_toArray, List.set_cons_zero, List.set_cons_succ]
    refine wpAnyH_take (i := 14) (oi := { dst := some 32, op := Go.Op.move (Go.Operand.tmp 0), type := 81, pos := "cursor.go:98", after := #[], guard := none }) (v := ?_) rfl (by kernel_rfl) (by kernel_rfl) (by kernel_rfl) (fun _ _ _ h => h) (Or.inl ⟨by rfl, ?hy14f⟩) (by assumption) ?rest14f
    case hy14f => (intro w hSw; (try dsimp only at hSw); go_simp; first | (with_reducible rfl) | (rw [if_neg (by omega)]) | skip)
    simp only [Act.put, List.setIfInBounds_toArray, List.set_cons_zero, List.set_cons_succ]
    refine wpAnyH_ready (rs := [1]) (by kernel_rfl) (by simp) ?_
    refine AllReadyH.cons (o := { dst := some 19, op := Go.Op.call { callee := Go.Callee.value (Go.Operand.func 68), args := #[Go.Operand.tmp 18], argTypes := #[81] }, type := 3, pos := "cursor.go:98", after := #[{ on := 0, ground := Go.Ground.data }], guard := none }) rfl (fun K hK => ?_) AllReadyH.nil
    go_simp
    go_at_call 68; (with_reducible refine (HR.out _ hHeld.2.2.2.1).mono ?_); rintro e wx1 ⟨rfl, hbx1⟩
    refine hK.out _ _ ?_ (fun hHeld => ?_)
    · (try dsimp only); first | exact hHeld | exact keepN hHeld (by assumption) | exact keepN hHeld (below_drewN _ _) | exact keepN S1 (Below.drew (Below.refl _ _))
    clear hK K
    try simp only [Act.put, List.setIfInBounds_toArray, List.set_cons_zero, List.set_cons_succ]
    refine wpAnyH_take (i := 3) (oi := { dst := some 21, op := Go.Op.binOp Go.BinOp.geq 3 (Go.Operand.tmp 19) (Go.Operand.tmp 20) 3, type := 4, pos := "cursor.go:98", after := #[{ on := 1, ground := Go.Ground.data }, { on := 2, ground := Go.Ground.data }], guard := none }) (v := ?_) rfl (by kernel_rfl) (by kernel_rfl) (by kernel_rfl) (fun _ _ _ h => h) (Or.inl ⟨by rfl, ?hy3f⟩) (by assumption) ?rest3f
    case hy3f => (intro w hSw; (try dsimp only at hSw); go_simp; first | (with_reducible rfl) | (rw [if_neg (by omega)]) | skip)
    simp only [Act.put, List.setIfInBounds_toArray, List.set_cons_zero, List.set_cons_succ]
    refine wpAnyH_take (i := 4) (oi := { dst := some 22, op := Go.Op.move (Go.Operand.tmp 21), type := 4, pos := "cursor.go:98", after := #[{ on := 3, ground := Go.Ground.data }, { on := 1, ground := Go.Ground.chain }], guard := none }) (v := ?_) rfl (by kernel_rfl) (by kernel_rfl) (by kernel_rfl) (fun _ _ _ h => h) (Or.inl ⟨by rfl, ?hy4f⟩) (by assumption) ?rest4f
    case hy4f => (intro w hSw; (try dsimp only at hSw); go_simp; first | (with_reducible rfl) | (rw [if_neg (by omega)]) | skip)
    simp only [Act.put, List.setIfInBounds_toArray, List.set_cons_zero, List.set_cons_succ]
    refine wpAnyH_take (i := 5) (oi := { dst := some 23, op := Go.Op.move (Go.Operand.tmp 0), type := 81, pos := "cursor.go:98", after := #[{ on := 4, ground := Go.Ground.guard }], guard := some (4, false) }) (v := ?_) rfl (by kernel_rfl) (by kernel_rfl) (by kernel_rfl) (fun _ _ _ h => h) (Or.inl ⟨by rfl, ?hy5f⟩) (by assumption) ?rest5f
    case hy5f => (intro w hSw; (try dsimp only at hSw); go_simp; first | (with_reducible rfl) | (rw [if_neg (by omega)]) | skip)
    simp only [Act.put, List.setIfInBounds_toArray, List.set_cons_zero, List.set_cons_succ]
    refine wpAnyH_take (i := 7) (oi := { dst := some 25, op := Go.Op.move (Go.Operand.tmp 5), type := 3, pos := "cursor.go:98", after := #[{ on := 4, ground := Go.Ground.guard }], guard := some (4, false) }) (v := ?_) rfl (by kernel_rfl) (by kernel_rfl) (by kernel_rfl) (fun _ _ _ h => h) (Or.inl ⟨by rfl, ?hy7f⟩) (by assumption) ?rest7f
    case hy7f => (intro w hSw; (try dsimp only at hSw); go_simp; first | (with_reducible rfl) | (rw [if_neg (by omega)]) | skip)
    simp only [Act.put, List.setIfInBounds_toArray, List.set_cons_zero, List.set_cons_succ]
    refine wpAnyH_ready (rs := [6]) (by kernel_rfl) (by simp) ?_
    refine AllReadyH.cons (o := { dst := some 24, op := Go.Op.call { callee := Go.Callee.value (Go.Operand.func 68), args := #[Go.Operand.tmp 23], argTypes := #[81] }, type := 3, pos := "cursor.go:98", after := #[{ on := 5, ground := Go.Ground.data }, { on := 4, ground := Go.Ground.chain }, { on := 4, ground := Go.Ground.guard }], guard := some (4, false) }) rfl (fun K hK => ?_) AllReadyH.nil
    go_simp
    go_at_call 68; (with_reducible refine (HR.out _ hHeld.2.2.2.1).mono ?_); rintro e wx2 ⟨rfl, hbx2⟩
    refine hK.out _ _ ?_ (fun hHeld => ?_)
    · (try dsimp only); first | exact hHeld | exact keepN hHeld (by assumption) | exact keepN hHeld (below_drewN _ _) | exact keepN S1 (Below.drew (Below.refl _ _))
    clear hK K
    try simp only [Act.put, List.setIfInBounds_toArray, List.set_cons_zero, List.set_cons_succ]
    refine wpAnyH_take (i := 8) (oi := { dst := some 26, op := Go.Op.binOp Go.BinOp.gtr 3 (Go.Operand.tmp 24) (Go.Operand.tmp 25) 3, type := 4, pos := "cursor.go:98", after := #[{ on := 6, ground := Go.Ground.data }, { on := 7, ground := Go.Ground.data }, { on := 4, ground := Go.Ground.guard }], guard := some (4, false) }) (v := ?_) rfl (by kernel_rfl) (by kernel_rfl) (by kernel_rfl) (fun _ _ _ h => h) (Or.inl ⟨by rfl, ?hy8f⟩) (by assumption) ?rest8f
    case hy8f => (intro w hSw; (try dsimp only at hSw); go_simp; first | (with_reducible rfl) | (rw [if_neg (by omega)]) | skip)
    simp only [Act.put, List.setIfInBounds_toArray, List.set_cons_zero, List.set_cons_succ]
    refine wpAnyH_take (i := 9) (oi := { dst := some 27, op := Go.Op.pick (Go.Operand.tmp 22) (Go.Operand.const (Go.Value.bool true)) (Go.Operand.tmp 26), type := 4, pos := "cursor.go:98", after := #[{ on := 4, ground := Go.Ground.data }, { on := 8, ground := Go.Ground.data }], guard := none }) (v := ?_) rfl (by kernel_rfl) (by kernel_rfl) (by kernel_rfl) (fun _ _ _ h => h) (Or.inl ⟨by rfl, ?hy9f⟩) (by assumption) ?rest9f
    case hy9f => (intro w hSw; (try dsimp only at hSw); go_simp; first | (with_reducible rfl) | (rw [if_neg (by omega)]) | skip)
    simp only [Act.put, List.setIfInBounds_toArray, List.set_cons_zero, List.set_cons_succ]
    refine wpAnyH_ready (rs := [15]) (by kernel_rfl) (by simp) ?_
    refine AllReadyH.cons (o := { dst := some 33, op := Go.Op.call { callee := Go.Callee.value (Go.Operand.func 68), args := #[Go.Operand.tmp 32], argTypes := #[81] }, type := 3, pos := "cursor.go:98", after := #[{ on := 14, ground := Go.Ground.data }, { on := 6, ground := Go.Ground.chain }], guard := none }) rfl (fun K hK => ?_) AllReadyH.nil
    go_simp
    go_at_call 68; (with_reducible refine (HR.out _ hHeld.2.2.2.1).mono ?_); rintro e wx3 ⟨rfl, hbx3⟩
    refine hK.out _ _ ?_ (fun hHeld => ?_)
    · (try dsimp only); first | exact hHeld | exact keepN hHeld (by assumption) | exact keepN hHeld (below_drewN _ _) | exact keepN S1 (Below.drew (Below.refl _ _))
    clear hK K
    try simp only [Act.put, List.setIfInBounds_toArray, List.set_cons_zero, List.set_cons_succ]
    refine wpAnyH_take (i := 16) (oi := { dst := some 34, op := Go.Op.binOp Go.BinOp.add 3 (Go.Operand.tmp 31) (Go.Operand.tmp 33) 3, type := 3, pos := "cursor.go:98", after := #[{ on := 13, ground := Go.Ground.data }, { on := 15, ground := Go.Ground.data }], guard := none }) (v := ?_) rfl (by kernel_rfl) (by kernel_rfl) (by kernel_rfl) (fun _ _ _ h => h) (Or.inl ⟨by rfl, ?hy16f⟩) (by assumption) ?rest16f
    case hy16f => (intro w hSw; (try dsimp only at hSw); go_simp; first | (with_reducible rfl) | (rw [if_neg (by omega)]) | skip)
    simp only [Act.put, List.setIfInBounds_toArray, List.set_cons_zero, List.set_cons_succ]
    refine wpAnyH_ready (rs := [17]) (by kernel_rfl) (by simp) ?_
    refine AllReadyH.cons (o := { dst := some 35, op := Go.Op.call { callee := Go.Callee.value (Go.Operand.func 92), args := #[Go.Operand.tmp 27, Go.Operand.tmp 34], argTypes := #[4, 3] }, type := 0, pos := "cursor.go:98", after := #[{ on := 9, ground := Go.Ground.data }, { on := 16, ground := Go.Ground.data }, { on := 15, ground := Go.Ground.chain }], guard := none }) rfl (fun K hK => ?_) AllReadyH.nil
    go_simp
    go_at_call 92; (with_reducible refine (need_yes _ _).mono ?_); rintro e w1 ⟨rfl, rfl⟩
    refine hK.out _ _ ?_ (fun hHeld => ?_)
    · (try dsimp only); first | exact hHeld | exact keepN hHeld (by assumption) | exact keepN hHeld (below_drewN _ _) | exact keepN S1 (Below.drew (Below.refl _ _))
    clear hK K
    try simp only [Act.put, List.setIfInBounds_toArray, List.set_cons_zero, List.set_cons_succ]
    refine wpAnyH_done (by kernel_rfl) ?_ _
    refine NoPanic.normal ?_
    obtain ⟨c0, c1, c2, hb3, hz3⟩ := hHeld
    have HC1 := hid (h.below hb3)
    have k1 := HC1.out.cu.f1
    clear hbx1 hbx2 hbx3 hge hHeld S1 S0
    go_upto_region 8 with (fail)
    obtain ⟨hm, hg⟩ := moved HC1.out.cu 0 0 (p + n)
    obtain ⟨W2, hW2⟩ : ∃ W2, W2 = w1.setCell ⟨g, 1, none⟩ (.int .i64 (p + n)) := ⟨_, rfl⟩
    have HC2 := hid (show CB g A c l (p + n) lim W2 by rw [hW2]; exact HC1.out.rd hg hm (by omega) (by omega) (by have := h.l2; omega))
    have HG2 := hid (show Rd g w W2 by rw [hW2]; exact (grown_of_below hb3 _).trans hg)
    rw [← hW2]
    clear hW2 hm hg c0 c1 c2 k1
    have c0 := HC2.out.cu.c0
    have c1 := HC2.out.cu.c1
    obtain ⟨ad, rfl, hat⟩ : ∃ ad, A = some ad ∧ ∀ (j : Nat) (x : Int), l[j]? = some x → W2.cell? (ad.add j) = some (.int .u8 x) := by
      rcases HC2.out.at_ with q | q
      · rw [q] at hlt; simp at hlt; omega
      · exact q
    have HCV := hid (fun (a : Nat) => conv_sub (w := W2.drewN a) hat p.toNat n.toNat (c - p.toNat) (by omega))
    have hwp : IntKind.i64.wrap p = p := by rw [IntKind.wrap_i64]; omega
    clear hat
    refine wp_region_quiet_lit (by kernel_rfl) (by kernel_rfl) ?_
    iterate 14 (quiet_step (fail))
    refine wpQuiet_step (fun K hK => ?_)
    go_simp
    refine ⟨.slice (some (ad.add p.toNat)) n.toNat (c - p.toNat), fun a => ?_, hK _ ?_⟩
    · rw [if_pos (show 0 ≤ p + n ∧ p + n ≤ c by omega), if_pos (show p ≤ max (p + n) 0 by omega), if_neg (show ¬ c = p.toNat by omega), show (p + n).toNat - p.toNat = n.toNat by omega]
      exact ⟨rfl, rfl⟩
    clear hK K
    refine wpQuiet_step (fun K hK => ?_)
    go_simp
    refine ⟨.string (strOfNums ((l.drop p.toNat).take n.toNat)), fun a => ?_, hK _ ?_⟩
    · rw [HCV.out a]
      exact ⟨rfl, rfl⟩
    clear hK K
    quiet_step (fail)
    refine wpQuiet_nil ?_
    intro _ hw'
    obtain ⟨nq2, hw''⟩ := hw'
    subst hw''
    go_wp2_with fail
    go_ret
    exact ⟨rfl, HC2.out.below (below_drewN _ _), HG2.out.trans (grown_of_below (below_drewN _ _) _)⟩
end Go.Proofs.YtiohiiekaofkbaaDoor
