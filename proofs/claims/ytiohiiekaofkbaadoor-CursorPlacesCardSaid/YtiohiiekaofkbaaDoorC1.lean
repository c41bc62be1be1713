/- The cursor with its bytes; the next byte; a byte that may be. -/
import Derived.Test.YtiohiiekaofkbaaDoorC0
import Derived.Deep.QuietTactic
import Derived.BigQuiet
namespace Go.Proofs.YtiohiiekaofkbaaDoor
set_option linter.unusedVariables false
set_option linter.unusedSimpArgs false
open Go.RowKit

/-- a cursor and its bytes -/
structure CB (g : Nat) (A : Option Addr) (c : Nat) (l : List Int) (p lim : Int) (w : World) : Prop where
  cu : Cu g (.slice A l.length c) p lim w
  at_ : BytesAt A l w
  ne : ∀ ad, A = some ad → ad.block ≠ g
  p0 : 0 ≤ p
  p1 : p ≤ l.length
  hl : l.length ≤ 1000000000
  l2 : lim - p ≤ 1099511627776
  b8 : ∀ x ∈ l, 0 ≤ x ∧ x < 256
theorem CB.l1 {g : Nat} {A : Option Addr} {c : Nat} {l : List Int} {p lim : Int} {w : World} (h : CB g A c l p lim w) : lim ≤ 4611686018427387904 := by have := h.l2; have := h.p1; have := h.hl; omega
theorem Rd.trans {g : Nat} {a b c : World} (h : Rd g a b) (k : Rd g b c) : Rd g a c := World.grownBy.trans h k
theorem BytesAt.rd {A : Option Addr} {l : List Int} {g : Nat} {w w' : World} (h : BytesAt A l w) (ne : ∀ ad, A = some ad → ad.block ≠ g) (hg : Rd g w w') : BytesAt A l w' := by
  rcases h with h | ⟨ad, rfl, h⟩
  · exact .inl h
  · refine .inr ⟨ad, rfl, fun j x hj => ?_⟩
    have e := h j x hj
    rw [World.cell?_of_block (w := w) (w' := w') (hg.block _ (cell_lt' e) (fun q => ne ad rfl ((add_block ad j).symm.trans (Option.some.inj q))))]
    exact e
theorem CB.rd {g : Nat} {A : Option Addr} {c : Nat} {l : List Int} {p lim p' lim' : Int} {w w' : World} (h : CB g A c l p lim w) (hg : Rd g w w') (hc : Cu g (.slice A l.length c) p' lim' w') (q0 : 0 ≤ p') (q1 : p' ≤ l.length) (q2 : lim' - p' ≤ 1099511627776) : CB g A c l p' lim' w' :=
  ⟨hc, h.at_.rd h.ne hg, h.ne, q0, q1, h.hl, q2, h.b8⟩
theorem CB.below {g : Nat} {A : Option Addr} {c : Nat} {l : List Int} {p lim : Int} {w w' : World} (h : CB g A c l p lim w) (hb : Below w.heap.size w w') : CB g A c l p lim w' :=
  h.rd (grown_of_below hb _) (h.cu.below hb) h.p0 h.p1 h.l2
/-- what a reader does: a value and a new place, or where it gives up and with what -/
abbrev Res := Except (Int × Int) (Value × Int)
def Post (g : Nat) (A : Option Addr) (c : Nat) (l : List Int) (lim : Int) (w : World) (r : Res) (e : Ending) (w' : World) : Prop :=
  match r with
  | .ok (v, p') => e = .returned v ∧ CB g A c l p' lim w' ∧ Rd g w w'
  | .error s => Stops s.1 s.2 e ∧ Rd g w w'
def nextV (l : List Int) (p lim : Int) : Res := match nextR l p lim with | .ok x => .ok (.int .u8 x, p + 1) | .error s => .error s

theorem next_walk (g : Nat) (A : Option Addr) (c : Nat) (l : List Int) (p lim : Int) (w : World) (h : CB g A c l p lim w) :
    Calls Tryd.prog 141 #[.pointer (some ⟨g, 0, none⟩)] w (Post g A c l lim w (nextV l p lim)) := by
  have p0 := h.p0
  have p1 := h.p1
  have hl := h.hl
  by_cases hr : rest p lim ≤ 0
  · have e : nextV l p lim = .error (p, 2) := by rw [nextV, nextR, if_pos hr]
    rw [e]
    exact (next_lim g A c l p lim w h.cu p0 p1 hl h.l1 hr).mono (fun e w' q => q)
  · by_cases hp : p < l.length
    · have hx : l[p.toNat]? = some l[p.toNat] := List.getElem?_eq_getElem (by omega)
      have e : nextV l p lim = .ok (.int .u8 l[p.toNat], p + 1) := by rw [nextV, nextR, if_neg hr, hx]
      rw [e]
      rcases h.at_ with q | ⟨ad, rfl, q⟩
      · rw [q] at hp; simp at hp; omega
      · refine (next_ok g ad c l.length l[p.toNat] p lim w h.cu p0 hp hl (h.ne ad rfl) (q _ _ hx) h.l1 (by omega)).mono (fun e w' k => ?_)
        exact ⟨k.1, h.rd k.2.2 k.2.1 (by omega) (by omega) (by have := h.l2; omega), k.2.2⟩
    · have e : nextV l p lim = .error (l.length, 1) := by rw [nextV, nextR, if_neg hr, List.getElem?_eq_none (by omega)]
      rw [e]
      exact (next_end g A c l p lim w h.cu p0 p1 (by omega) hl h.l1 (by omega)).mono (fun e w' q => q)

theorem rest_b {g : Nat} {A : Option Addr} {c : Nat} {l : List Int} {p lim : Int} {w : World} (h : CB g A c l p lim w) (W : World) (hb : Below w.heap.size w W) :
    Calls Tryd.prog 68 #[.pointer (some ⟨g, 0, none⟩)] W (fun e w' => e = .returned (.int .i64 (rest p lim)) ∧ Below W.heap.size W w') :=
  (rest_walk g (.slice A l.length c) p lim W (h.cu.below hb) h.p0 (by have := h.p1; have := h.hl; omega) h.l1).mono (fun e w' ⟨q, n, r⟩ => ⟨q, r ▸ below_drewN W n⟩)
/-- a function with a body is entered -/
abbrev Enters (k : Nat) : Prop := ∀ (args : Array Value) (w : World), (callFunc k args).run Tryd.prog w = .ok (.enter k args) w
theorem enters {f : FuncId} {fn : Func} {c : Code} (hf : Tryd.prog.funcs[f]? = some fn) (hname : (fn.name == "runtime.NumGoroutine") = false) (hb : fn.body = some c) : Enters f := by
  intro args w
  have h1 : fn.name ≠ "runtime.NumGoroutine" := by simpa using hname
  simp [callFunc, hf, h1, hb]
/-- what is asked of a byte and the rest behind it: a function value that keeps what is older -/
abbrev May (k : Nat) (caps : Array Value) (w : World) (x : Int) (r : Int) (is : Bool) : Prop :=
  ∀ W, w.heap.size ≤ W.heap.size → Below w.heap.size w W → Calls Tryd.prog k (#[.int .u8 x, .int .i64 r] ++ caps) W (fun e w' => e = .returned (.bool is) ∧ Below W.heap.size W w')

set_option maxHeartbeats 4000000 in
theorem byte_yes (g : Nat) (A : Option Addr) (c : Nat) (l : List Int) (p lim : Int) (w : World) (k : Nat) (caps : Array Value) (hE : Enters k) (h : CB g A c l p lim w) (x : Int) (hx : nextR l p lim = .ok x)
    (hm : ∀ w1, Rd g w w1 → CB g A c l (p + 1) lim w1 → May k caps w1 x (rest (p + 1) lim) true) :
    Calls Tryd.prog 94 #[.pointer (some ⟨g, 0, none⟩), .func (.func k) #[] caps] w (Post g A c l lim w (.ok (.int .u8 x, p + 1))) := by
  have HN := hid (next_walk g A c l p lim w h)
  have hv : nextV l p lim = .ok (.int .u8 x, p + 1) := by rw [nextV, hx]
  rw [hv] at HN
  have HM := hid hm
  have HE := hid hE
  clear hE
  clear hm hx hv
  go_enter Tryd.func94, Tryd.ntmps94
  go_upto_region 2 with (first | (go_at_call 141; refine HN.out.mono ?_; rintro e w1 ⟨rfl, HC, HG⟩))
  have HR := hid (rest_b HC)
  have p0 := h.p0
  have p1 := h.p1
  have hl := h.hl
  have HY := hid (fun W => need_yes p W)
  have HMM := hid (HM.out w1 HG HC)
  have hwp : IntKind.i64.wrap p = p := by rw [IntKind.wrap_i64]; omega
  obtain ⟨c0, c1, c2, f1, f2⟩ := HC.cu
  have S0 : w1.cell? ⟨g, 0, none⟩ = some (.slice A l.length c) ∧ w1.cell? ⟨g, 1, none⟩ = some (.int .i64 (p + 1)) ∧ w1.cell? ⟨g, 2, none⟩ = some (.int .i64 lim) ∧ Below w1.heap.size w1 w1 ∧ w1.heap.size ≤ w1.heap.size := ⟨c0, c1, c2, Below.refl _ _, Nat.le_refl _⟩
  clear c0 c1 c2
  refine wp_region_noPanic ?_
  refine wp_region_held_drew (S := (fun W => W.cell? ⟨g, 0, none⟩ = some (.slice A l.length c) ∧ W.cell? ⟨g, 1, none⟩ = some (.int .i64 (p + 1)) ∧ W.cell? ⟨g, 2, none⟩ = some (.int .i64 lim) ∧ Below w1.heap.size w1 W ∧ w1.heap.size ≤ W.heap.size)) (by kernel_rfl) ?hSa (fun hHeld => ?goa)
  case hSa => exact keepN S0 (Below.drew (Below.refl _ _))
  refine wpAnyH_take (i := 0) (oi := { dst := some 8, op := Go.Op.move (Go.Operand.tmp 1), type := 144, pos := "cursor.go:88", after := #[], guard := none }) (v := ?_) rfl (by kernel_rfl) (by kernel_rfl) (by kernel_rfl) (fun _ _ _ h => h) (Or.inl ⟨by rfl, ?hy0a⟩) (by assumption) ?rest0a
  case hy0a => (intro w hSw; (try dsimp only at hSw); go_simp; first | (with_reducible rfl) | (rw [if_neg (by omega)]) | skip)
  simp only [Act.put, List.setIfInBounds_toArray, List.set_cons_zero, List.set_cons_succ]
  refine wpAnyH_take (i := 1) (oi := { dst := some 9, op := Go.Op.move (Go.Operand.tmp 5), type := 5, pos := "cursor.go:88", after := #[], guard := none }) (v := ?_) rfl (by kernel_rfl) (by kernel_rfl) (by kernel_rfl) (fun _ _ _ h => h) (Or.inl ⟨by rfl, ?hy1a⟩) (by assumption) ?rest1a
  case hy1a => (intro w hSw; (try dsimp only at hSw); go_simp; first | (with_reducible rfl) | (rw [if_neg (by omega)]) | skip)
  simp only [Act.put, List.setIfInBounds_toArray, List.set_cons_zero, List.set_cons_succ]
  refine wpAnyH_take (i := 2) (oi := { dst := some 10, op := Go.Op.move (Go.Operand.tmp 0), type := 81, pos := "cursor.go:88", after := #[], guard := none }) (v := ?_) rfl (by kernel_rfl) (by kernel_rfl) (by kernel_rfl) (fun _ _ _ h => h) (Or.inl ⟨by rfl, ?hy2a⟩) (by assumption) ?rest2a
  case hy2a => (intro w hSw; (try dsimp only at hSw); go_simp; first | (with_reducible rfl) | (rw [if_neg (by omega)]) | skip)
  simp only [Act.put, List.setIfInBounds_toArray, List.set_cons_zero, List.set_cons_succ]
  refine wpAnyH_take (i := 5) (oi := { dst := some 13, op := Go.Op.move (Go.Operand.tmp 0), type := 81, pos := "cursor.go:88", after := #[], guard := none }) (v := ?_) rfl (by kernel_rfl) (by kernel_rfl) (by kernel_rfl) (fun _ _ _ h => h) (Or.inl ⟨by rfl, ?hy5a⟩) (by assumption) ?rest5a
  case hy5a => (intro w hSw; (try dsimp only at hSw); go_simp; first | (with_reducible rfl) | (rw [if_neg (by omega)]) | skip)
  simp only [Act.put, List.setIfInBounds_toArray, List.set_cons_zero, List.set_cons_succ]
  refine wpAnyH_take (i := 6) (oi := { dst := some 14, op := Go.Op.nilCheck (Go.Operand.tmp 13), type := 0, pos := "cursor.go:88", after := #[{ on := 5, ground := Go.Ground.data }], guard := none }) (v := ?_) rfl (by kernel_rfl) (by kernel_rfl) (by kernel_rfl) (fun _ _ _ h => h) (Or.inl ⟨by rfl, ?hy6a⟩) (by assumption) ?rest6a
  case hy6a => (intro w hSw; (try dsimp only at hSw); go_simp; first | (with_reducible rfl) | (rw [if_neg (by omega)]) | skip)
  simp only [Act.put, List.setIfInBounds_toArray, List.set_cons_zero, List.set_cons_succ]
  refine wpAnyH_take (i := 7) (oi := { dst := some 15, op := Go.Op.fieldAddr 136 (Go.Operand.tmp 14) 1, type := 0, pos := "cursor.go:88", after := #[{ on := 6, ground := Go.Ground.data }], guard := none }) (v := ?_) rfl (by kernel_rfl) (by kernel_rfl) (by kernel_rfl) (fun _ _ _ h => h) (Or.inl ⟨by rfl, ?hy7a⟩) (by assumption) ?rest7a
  case hy7a => (intro w hSw; (try dsimp only at hSw); go_simp; first | (with_reducible rfl) | (rw [if_neg (by omega)]) | skip)
  simp only [Act.put, List.setIfInBounds_toArray, List.set_cons_zero, List.set_cons_succ]
  refine wpAnyH_take (i := 8) (oi := { dst := some 16, op := Go.Op.load 3 (Go.Operand.tmp 15), type := 3, pos := "cursor.go:88", after := #[{ on := 7, ground := Go.Ground.data }], guard := none }) (v := ?_) rfl (by kernel_rfl) (by kernel_rfl) (by kernel_rfl) (fun _ _ _ h => h) (Or.inl ⟨by rfl, ?hy8a⟩) (by assumption) ?rest8a
  case hy8a => (intro w hSw; (try dsimp only at hSw); go_simp; first | (with_reducible rfl) | (rw [if_neg (by omega)]) | skip)
  simp only [Act.put, List.setIfInBounds_toArray, List.set_cons_zero, List.set_cons_succ]
  refine wpAnyH_take (i := 9) (oi := { dst := some 17, op := Go.Op.binOp Go.BinOp.sub 3 (Go.Operand.tmp 16) (Go.Operand.const (Go.Value.int Go.IntKind.i64 1)) 3, type := 3, pos := "cursor.go:88", after := #[{ on := 8, ground := Go.Ground.data }], guard := none }) (v := ?_) rfl (by kernel_rfl) (by kernel_rfl) (by kernel_rfl) (fun _ _ _ h => h) (Or.inl ⟨by rfl, ?hy9a⟩) (by assumption) ?rest9a
  case hy9a => (intro w hSw; (try dsimp only at hSw); go_simp; first | (with_reducible rfl) | (rw [if_neg (by omega)]) | skip)
  simp only [Act.put, List.setIfInBounds_toArray, List.set_cons_zero, List.set_cons_succ]
  refine wpAnyH_ready (rs := [3]) (by kernel_rfl) (by simp) ?_
  refine AllReadyH.cons (o := { dst := some 11, op := Go.Op.call { callee := Go.Callee.value (Go.Operand.func 68), args := #[Go.Operand.tmp 10], argTypes := #[81] }, type := 3, pos := "cursor.go:88", after := #[{ on := 2, ground := Go.Ground.data }], guard := none }) rfl (fun K hK => ?_) AllReadyH.nil
  go_simp
  go_at_call 68; (with_reducible refine (HR.out _ hHeld.2.2.2.1).mono ?_); rintro e w2 ⟨rfl, hb2⟩
  refine hK.out _ _ ?_ (fun hHeld => ?_)
  · (try dsimp only); first | exact hHeld | exact keepN hHeld (by assumption) | exact keepN hHeld (below_drewN _ _) | exact keepN S0 (below_drewN w1 _)
  clear hK K
  try simp only [Act.put, List.setIfInBounds_toArray, List.set_cons_zero, List.set_cons_succ]
  refine wpAnyH_ready (rs := [4]) (by kernel_rfl) (by simp) ?_
  refine AllReadyH.cons (o := { dst := some 12, op := Go.Op.call { callee := Go.Callee.value (Go.Operand.tmp 8), args := #[Go.Operand.tmp 9, Go.Operand.tmp 11], argTypes := #[5, 3] }, type := 4, pos := "cursor.go:88", after := #[{ on := 0, ground := Go.Ground.data }, { on := 1, ground := Go.Ground.data }, { on := 3, ground := Go.Ground.data }, { on := 3, ground := Go.Ground.chain }], guard := none }) rfl (fun K hK => ?_) AllReadyH.nil
  go_simp
  rw [HE.out]; go_simp; (with_reducible refine (HMM.out _ hHeld.2.2.2.2 hHeld.2.2.2.1).mono ?_); rintro e w4 ⟨rfl, hb4⟩
  refine hK.out _ _ ?_ (fun hHeld => ?_)
  · (try dsimp only); first | exact hHeld | exact keepN hHeld (by assumption) | exact keepN hHeld (below_drewN _ _) | exact keepN S0 (below_drewN w1 _)
  clear hK K
  try simp only [Act.put, List.setIfInBounds_toArray, List.set_cons_zero, List.set_cons_succ]
  refine wpAnyH_ready (rs := [10]) (by kernel_rfl) (by simp) ?_
  refine AllReadyH.cons (o := { dst := some 18, op := Go.Op.call { callee := Go.Callee.value (Go.Operand.func 92), args := #[Go.Operand.tmp 12, Go.Operand.tmp 17], argTypes := #[4, 3] }, type := 0, pos := "cursor.go:88", after := #[{ on := 4, ground := Go.Ground.data }, { on := 9, ground := Go.Ground.data }, { on := 4, ground := Go.Ground.chain }], guard := none }) rfl (fun K hK => ?_) AllReadyH.nil
  go_simp
  (try rw [hwp]); go_at_call 92; (with_reducible refine (HY.out _).mono ?_); rintro e w3 ⟨rfl, rfl⟩
  refine hK.out _ _ ?_ (fun hHeld => ?_)
  · (try dsimp only); first | exact hHeld | exact keepN hHeld (by assumption) | exact keepN hHeld (below_drewN _ _) | exact keepN S0 (below_drewN w1 _)
  clear hK K
  try simp only [Act.put, List.setIfInBounds_toArray, List.set_cons_zero, List.set_cons_succ]
  refine wpAnyH_done (by kernel_rfl) ?_ _
  refine NoPanic.normal ?_
  go_wp2_with fail
  go_ret
  exact ⟨rfl, HC.below hHeld.2.2.2.1, HG.trans (grown_of_below hHeld.2.2.2.1 _)⟩
set_option maxHeartbeats 4000000 in
theorem byte_not (g : Nat) (A : Option Addr) (c : Nat) (l : List Int) (p lim : Int) (w : World) (k : Nat) (caps : Array Value) (hE : Enters k) (h : CB g A c l p lim w) (x : Int) (hx : nextR l p lim = .ok x)
    (hm : ∀ w1, Rd g w w1 → CB g A c l (p + 1) lim w1 → May k caps w1 x (rest (p + 1) lim) false) :
    Calls Tryd.prog 94 #[.pointer (some ⟨g, 0, none⟩), .func (.func k) #[] caps] w (Post g A c l lim w (.error (p, 2))) := by
  have HN := hid (next_walk g A c l p lim w h)
  have hv : nextV l p lim = .ok (.int .u8 x, p + 1) := by rw [nextV, hx]
  rw [hv] at HN
  have HM := hid hm
  have HE := hid hE
  clear hE
  clear hm hx hv
  go_enter Tryd.func94, Tryd.ntmps94
  go_upto_region 2 with (first | (go_at_call 141; refine HN.out.mono ?_; rintro e w1 ⟨rfl, HC, HG⟩))
  have HR := hid (rest_b HC)
  have p0 := h.p0
  have p1 := h.p1
  have hl := h.hl
  have HY := hid (fun W => need_no p W)
  have HMM := hid (HM.out w1 HG HC)
  have hwp : IntKind.i64.wrap p = p := by rw [IntKind.wrap_i64]; omega
  obtain ⟨c0, c1, c2, f1, f2⟩ := HC.cu
  have S0 : w1.cell? ⟨g, 0, none⟩ = some (.slice A l.length c) ∧ w1.cell? ⟨g, 1, none⟩ = some (.int .i64 (p + 1)) ∧ w1.cell? ⟨g, 2, none⟩ = some (.int .i64 lim) ∧ Below w1.heap.size w1 w1 ∧ w1.heap.size ≤ w1.heap.size := ⟨c0, c1, c2, Below.refl _ _, Nat.le_refl _⟩
  clear c0 c1 c2
  refine wp_region_held_drew (S := (fun W => W.cell? ⟨g, 0, none⟩ = some (.slice A l.length c) ∧ W.cell? ⟨g, 1, none⟩ = some (.int .i64 (p + 1)) ∧ W.cell? ⟨g, 2, none⟩ = some (.int .i64 lim) ∧ Below w1.heap.size w1 W ∧ w1.heap.size ≤ W.heap.size)) (by kernel_rfl) ?hSa1 (fun hHeld => ?goa1)
  case hSa1 => exact keepN S0 (Below.drew (Below.refl _ _))
  refine wpAnyH_take (i := 0) (oi := { dst := some 8, op := Go.Op.move (Go.Operand.tmp 1), type := 144, pos := "cursor.go:88", after := #[], guard := none }) (v := ?_) rfl (by kernel_rfl) (by kernel_rfl) (by kernel_rfl) (fun _ _ _ h => h) (Or.inl ⟨by rfl, ?hya2⟩) (by assumption) ?resta2
  case hya2 => (intro w hSw; (try dsimp only at hSw); go_simp; first | (with_reducible rfl) | (rw [if_neg (by omega)]) | skip)
  simp only [Act.put, List.setIfInBounds_toArray, List.set_cons_zero, List.set_cons_succ]
  refine wpAnyH_take (i := 1) (oi := { dst := some 9, op := Go.Op.move (Go.Operand.tmp 5), type := 5, pos := "cursor.go:88", after := #[], guard := none }) (v := ?_) rfl (by kernel_rfl) (by kernel_rfl) (by kernel_rfl) (fun _ _ _ h => h) (Or.inl ⟨by rfl, ?hya3⟩) (by assumption) ?resta3
  case hya3 => (intro w hSw; (try dsimp only at hSw); go_simp; first | (with_reducible rfl) | (rw [if_neg (by omega)]) | skip)
  simp only [Act.put, List.setIfInBounds_toArray, List.set_cons_zero, List.set_cons_succ]
  refine wpAnyH_take (i := 2) (oi := { dst := some 10, op := Go.Op.move (Go.Operand.tmp 0), type := 81, pos := "cursor.go:88", after := #[], guard := none }) (v := ?_) rfl (by kernel_rfl) (by kernel_rfl) (by kernel_rfl) (fun _ _ _ h => h) (Or.inl ⟨by rfl, ?hya4⟩) (by assumption) ?resta4
  case hya4 => (intro w hSw; (try dsimp only at hSw); go_simp; first | (with_reducible rfl) | (rw [if_neg (by omega)]) | skip)
  simp only [Act.put, List.setIfInBounds_toArray, List.set_cons_zero, List.set_cons_succ]
  refine wpAnyH_take (i := 5) (oi := { dst := some 13, op := Go.Op.move (Go.Operand.tmp 0), type := 81, pos := "cursor.go:88", after := #[], guard := none }) (v := ?_) rfl (by kernel_rfl) (by kernel_rfl) (by kernel_rfl) (fun _ _ _ h => h) (Or.inl ⟨by rfl, ?hya5⟩) (by assumption) ?resta5
  case hya5 => (intro w hSw; (try dsimp only at hSw); go_simp; first | (with_reducible rfl) | (rw [if_neg (by omega)]) | skip)
  simp only [Act.put, List.setIfInBounds_toArray, List.set_cons_zero, List.set_cons_succ]
  refine wpAnyH_take (i := 6) (oi := { dst := some 14, op := Go.Op.nilCheck (Go.Operand.tmp 13), type := 0, pos := "cursor.go:88", after := #[{ on := 5, ground := Go.Ground.data }], guard := none }) (v := ?_) rfl (by kernel_rfl) (by kernel_rfl) (by kernel_rfl) (fun _ _ _ h => h) (Or.inl ⟨by rfl, ?hya6⟩) (by assumption) ?resta6
  case hya6 => (intro w hSw; (try dsimp only at hSw); go_simp; first | (with_reducible rfl) | (rw [if_neg (by omega)]) | skip)
  simp only [Act.put, List.setIfInBounds_toArray, List.set_cons_zero, List.set_cons_succ]
  refine wpAnyH_take (i := 7) (oi := { dst := some 15, op := Go.Op.fieldAddr 136 (Go.Operand.tmp 14) 1, type := 0, pos := "cursor.go:88", after := #[{ on := 6, ground := Go.Ground.data }], guard := none }) (v := ?_) rfl (by kernel_rfl) (by kernel_rfl) (by kernel_rfl) (fun _ _ _ h => h) (Or.inl ⟨by rfl, ?hya7⟩) (by assumption) ?resta7
  case hya7 => (intro w hSw; (try dsimp only at hSw); go_simp; first | (with_reducible rfl) | (rw [if_neg (by omega)]) | skip)
  simp only [Act.put, List.setIfInBounds_toArray, List.set_cons_zero, List.set_cons_succ]
  refine wpAnyH_take (i := 8) (oi := { dst := some 16, op := Go.Op.load 3 (Go.Operand.tmp 15), type := 3, pos := "cursor.go:88", after := #[{ on := 7, ground := Go.Ground.data }], guard := none }) (v := ?_) rfl (by kernel_rfl) (by kernel_rfl) (by kernel_rfl) (fun _ _ _ h => h) (Or.inl ⟨by rfl, ?hya8⟩) (by assumption) ?resta8
  case hya8 => (intro w hSw; (try dsimp only at hSw); go_simp; first | (with_reducible rfl) | (rw [if_neg (by omega)]) | skip)
  simp only [Act.put, List.setIfInBounds_toArray, List.set_cons_zero, List.set_cons_succ]
  refine wpAnyH_take (i := 9) (oi := { dst := some 17, op := Go.Op.binOp Go.BinOp.sub 3 (Go.Operand.tmp 16) (Go.Operand.const (Go.Value.int Go.IntKind.i64 1)) 3, type := 3, pos := "cursor.go:88", after := #[{ on := 8, ground := Go.Ground.data }], guard := none }) (v := ?_) rfl (by kernel_rfl) (by kernel_rfl) (by kernel_rfl) (fun _ _ _ h => h) (Or.inl ⟨by rfl, ?hya9⟩) (by assumption) ?resta9
  case hya9 => (intro w hSw; (try dsimp only at hSw); go_simp; first | (with_reducible rfl) | (rw [if_neg (by omega)]) | skip)
  simp only [Act.put, List.setIfInBounds_toArray, List.set_cons_zero, List.set_cons_succ]
  refine wpAnyH_ready (rs := [3]) (by kernel_rfl) (by simp) ?_
  refine AllReadyH.cons (o := { dst := some 11, op := Go.Op.call { callee := Go.Callee.value (Go.Operand.func 68), args := #[Go.Operand.tmp 10], argTypes := #[81] }, type := 3, pos := "cursor.go:88", after := #[{ on := 2, ground := Go.Ground.data }], guard := none }) rfl (fun K hK => ?_) AllReadyH.nil
  go_simp
  go_at_call 68; (with_reducible refine (HR.out _ hHeld.2.2.2.1).mono ?_); rintro e w2 ⟨rfl, hb2⟩
  refine hK.out _ _ ?_ (fun hHeld => ?_)
  · (try dsimp only); first | exact hHeld | exact keepN hHeld (by assumption) | exact keepN hHeld (below_drewN _ _) | exact keepN S0 (below_drewN w1 _)
  clear hK K
  try simp only [Act.put, List.setIfInBounds_toArray, List.set_cons_zero, List.set_cons_succ]
  refine wpAnyH_ready (rs := [4]) (by kernel_rfl) (by simp) ?_
  refine AllReadyH.cons (o := { dst := some 12, op := Go.Op.call { callee := Go.Callee.value (Go.Operand.tmp 8), args := #[Go.Operand.tmp 9, Go.Operand.tmp 11], argTypes := #[5, 3] }, type := 4, pos := "cursor.go:88", after := #[{ on := 0, ground := Go.Ground.data }, { on := 1, ground := Go.Ground.data }, { on := 3, ground := Go.Ground.data }, { on := 3, ground := Go.Ground.chain }], guard := none }) rfl (fun K hK => ?_) AllReadyH.nil
  go_simp
  rw [HE.out]; go_simp; (with_reducible refine (HMM.out _ hHeld.2.2.2.2 hHeld.2.2.2.1).mono ?_); rintro e w4 ⟨rfl, hb4⟩
  refine hK.out _ _ ?_ (fun hHeld => ?_)
  · (try dsimp only); first | exact hHeld | exact keepN hHeld (by assumption) | exact keepN hHeld (below_drewN _ _) | exact keepN S0 (below_drewN w1 _)
  clear hK K
  try simp only [Act.put, List.setIfInBounds_toArray, List.set_cons_zero, List.set_cons_succ]
  refine wpAnyH_ready (rs := [10]) (by kernel_rfl) (by simp) ?_
  refine AllReadyH.cons (o := { dst := some 18, op := Go.Op.call { callee := Go.Callee.value (Go.Operand.func 92), args := #[Go.Operand.tmp 12, Go.Operand.tmp 17], argTypes := #[4, 3] }, type := 0, pos := "cursor.go:88", after := #[{ on := 4, ground := Go.Ground.data }, { on := 9, ground := Go.Ground.data }, { on := 4, ground := Go.Ground.chain }], guard := none }) rfl (fun K hK => ?_) AllReadyH.nil
  go_simp
  (try rw [hwp]); go_at_call 92; (with_reducible refine (HY.out _).mono ?_); rintro e w3 ⟨rfl, rfl⟩; exact ⟨rfl, rfl, HG.trans (grown_of_below hHeld.2.2.2.1 _)⟩

set_option maxHeartbeats 1000000 in
theorem byte_err (g : Nat) (A : Option Addr) (c : Nat) (l : List Int) (p lim : Int) (w : World) (k : Nat) (caps : Array Value) (h : CB g A c l p lim w) (s : Int × Int) (hx : nextR l p lim = .error s) :
    Calls Tryd.prog 94 #[.pointer (some ⟨g, 0, none⟩), .func (.func k) #[] caps] w (Post g A c l lim w (.error s)) := by
  have HN := hid (next_walk g A c l p lim w h)
  have hv : nextV l p lim = .error s := by rw [nextV, hx]
  rw [hv] at HN
  clear hx hv
  go_enter Tryd.func94, Tryd.ntmps94
  go_upto_region 2 with (first | (go_at_call 141; refine HN.out.mono ?_; rintro e w1 ⟨rfl, HG⟩))
  exact ⟨rfl, rfl, HG⟩
end Go.Proofs.YtiohiiekaofkbaaDoor
