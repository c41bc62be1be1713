/- asked: what lies; its closure for a limit; helpers. -/
import Derived.Test.YtiohiiekaofkbaaDoorE2
namespace Go.Proofs.YtiohiiekaofkbaaDoor
set_option linter.unusedVariables false
set_option linter.unusedSimpArgs false
open Go.RowKit Go.Proofs.YtiohiiekaofkbaaDoor.PCursorPlaces Go.Proofs.YtiohiiekaofkbaaDoorW.PrintWords

/-- an ask as it lies -/
def AskAt (w : World) (a : Addr) (x : S154) : Prop := ∃ (A13 : Option Addr) (c13 : Nat),
  w.cell? a = some (.int .u8 x.f0) ∧ w.cell? ⟨a.block, a.off + 1, none⟩ = some (.int .i64 x.f1) ∧ w.cell? ⟨a.block, a.off + 2, none⟩ = some (.int .u8 x.f2) ∧ w.cell? ⟨a.block, a.off + 3, none⟩ = some (.int .u8 x.f3) ∧
  w.cell? ⟨a.block, a.off + 4, none⟩ = some (.int .i64 x.f4.f0) ∧ w.cell? ⟨a.block, a.off + 5, none⟩ = some (.int .u64 x.f4.f1) ∧ w.cell? ⟨a.block, a.off + 6, none⟩ = some (.int .u64 x.f4.f2) ∧
  w.cell? ⟨a.block, a.off + 7, none⟩ = some (.int .i64 x.f4.f3.f0) ∧ w.cell? ⟨a.block, a.off + 8, none⟩ = some (.int .i64 x.f4.f3.f1) ∧ w.cell? ⟨a.block, a.off + 9, none⟩ = some (.int .i64 x.f4.f4.f0) ∧ w.cell? ⟨a.block, a.off + 10, none⟩ = some (.int .i64 x.f4.f4.f1) ∧
  w.cell? ⟨a.block, a.off + 11, none⟩ = some (.int .i64 x.f4.f5.f0) ∧ w.cell? ⟨a.block, a.off + 12, none⟩ = some (.int .i64 x.f4.f5.f1) ∧ w.cell? ⟨a.block, a.off + 13, none⟩ = some (.slice A13 x.f4.f6.length c13) ∧ Kd.C k157 w A13 x.f4.f6.length x.f4.f6
def AsksAt (w : World) (A : Option Addr) (xs : List S154) : Prop := ∀ (i : Nat) (h : i < xs.length), ∃ ad, A = some ad ∧ AskAt w (ad.add (i * 14)) xs[i]
def askV (x : S154) : AskV := ⟨x.f0 % 6, x.f1, x.f2, x.f3, rgQ x.f4, x.f4.f5.f0, x.f4.f5.f1⟩
structure FineA (x : S154) : Prop where
  u8 : 0 ≤ x.f0 ∧ x.f0 < 256
  n : -9223372036854775808 ≤ x.f1 ∧ x.f1 ≤ 9223372036854775807
  q : x.f0 % 6 = 1 → FineQ x.f4
  s : x.f0 % 6 = 2 → 1 ≤ x.f1 ∧ x.f1 ≤ 64
  b : rightB x.f4.f5.f0 x.f4.f5.f1 = true
  bm : x.f4.f5.f1 ≤ 9223372036854775807
/-- what asked tells -/
def PostA (w1 : World) (g og N : Nat) (A : Option Addr) (c : Nat) (l : List Int) (lim : Int) (w : World) (r : Except (Int × Int) (Unit × Int)) (e : Ending) (w' : World) : Prop :=
  match r with
  | .ok (_, p') => e = .returned (.tuple #[]) ∧ (∃ n, n ≤ N ∧ Ast w1 g og n A c l p' lim w') ∧ Fo g og w w'
  | .error s => Stops s.1 s.2 e ∧ Fo g og w w'
theorem cellG {W wa : World} {row : Option Nat} (h : W.grownBy wa row) {B i : Nat} {u : Value} (hne : row ≠ some B) (hc : W.cell? ⟨B, i, none⟩ = some u) : wa.cell? ⟨B, i, none⟩ = some u := by
  rw [World.cell?_of_block (a := ⟨B, i, none⟩) (h.block B (cell_lt hc) (fun q => hne q.symm))]; exact hc
theorem conv_one (W : World) (x : Int) : (convert 70 9 (.slice (some ⟨W.heap.size, 0, none⟩) 1 1)).run Tryd.prog (W.alloc (.cells #[.int .u8 x] 5)) = .ok (.string (strOfNums [x])) (W.alloc (.cells #[.int .u8 x] 5)) :=
  conv_cells (l := [x]) (ad := ⟨W.heap.size, 0, none⟩) (by
    intro j y hj
    rcases j with _ | j
    · simp at hj; subst hj; go_simp
    · simp at hj) 1
theorem lm_iff {p lim : Int} : 0 ≤ rest p lim ↔ (lim < 0 ∨ p ≤ lim) := by
  unfold rest; split <;> omega
theorem infoS : (Tryd.prog.info? 9).map (fun i => (i.zero, i.size, i.bytes)) = some (some (.string ⟨#[]⟩), 1, 16) := by kernel_rfl
theorem ask_err {y : AskV} {r : List AskV} {lim q : Int} {l : List Int} {s : Int × Int} (h5 : y.d ≠ 5) (h : stepM y lim q l = .error s) : askM (y :: r) lim q l = .error s := by
  rw [askM, if_neg h5, andThen, h]
theorem ask_ok {y : AskV} {r : List AskV} {lim q p' : Int} {l : List Int} (h5 : y.d ≠ 5) (h : stepM y lim q l = .ok ((), p')) : askM (y :: r) lim q l = askM r lim p' l := by
  rw [askM, if_neg h5, andThen, h]
theorem step_lm {y : AskV} {lim q p' : Int} {l : List Int} (q0 : 0 ≤ q) (q1 : q ≤ l.length) (h : lim < 0 ∨ q ≤ lim) (hs : stepM y lim q l = .ok ((), p')) : lim < 0 ∨ p' ≤ lim :=
  lm_iff.1 ((step_loc q0 (lm_iff.2 h)).ok l () p' q1 hs).2.2.1
theorem AsksAt.drop {w : World} {ad : Addr} {xs : List S154} {k c1 : Nat} (h : AsksAt w (some ad) xs) (hk : k ≤ xs.length) (hc : xs.length ≤ c1) : AsksAt w (if c1 = k then some ad else some (ad.add (k * 14))) (xs.drop k) := by
  intro i hi
  rw [List.length_drop] at hi
  obtain ⟨ad', e, ha⟩ := h (k + i) (by omega)
  cases e
  rw [if_neg (by omega)]
  refine ⟨_, rfl, ?_⟩
  rw [Addr.add_add, ← Nat.add_mul, List.getElem_drop]
  exact ha
theorem keep6 {p1 p2 p3 p4 : Addr} {a b c d : Value} {W W' : World} (h : W.cell? p1 = some a ∧ W.cell? p2 = some b ∧ W.cell? p3 = some c ∧ W.cell? p4 = some d)
    (hb : Below W.heap.size W W') : W'.cell? p1 = some a ∧ W'.cell? p2 = some b ∧ W'.cell? p3 = some c ∧ W'.cell? p4 = some d :=
  ⟨pw_cell_below hb h.1, pw_cell_below hb h.2.1, pw_cell_below hb h.2.2.1, pw_cell_below hb h.2.2.2⟩
set_option maxRecDepth 100000 in
set_option maxHeartbeats 4000000 in
/-- within a limit it is asked on -/
theorem asked2_any (B3 B4 I B5 g og : Nat) (ad : Addr) (len c1 i : Nat) (W : World) (Q : Ending → World → Prop) (h3 : W.cell? ⟨B3, 0, none⟩ = some (.pointer (some ⟨g, 0, none⟩))) (h4 : W.cell? ⟨B4, 0, none⟩ = some (.slice (some ad) len c1)) (hI : W.cell? ⟨I, 0, none⟩ = some (.int .i64 i)) (h5 : W.cell? ⟨B5, 0, none⟩ = some (.pointer (some ⟨og, 0, none⟩)))
    (hi : i < len) (hc : len ≤ c1) (hl : len ≤ 1000) (hcall : ∀ W', Below W.heap.size W W' → Calls Tryd.prog 56 #[.pointer (some ⟨g, 0, none⟩), .slice (if c1 = i + 1 then some ad else some (ad.add ((i + 1) * 14))) (len - (i + 1)) (c1 - (i + 1)), .pointer (some ⟨og, 0, none⟩)] W' (fun e w' => (e = .returned (.tuple #[]) ∨ ∃ s er, Stops s er e) ∧ Q e w')) :
    Calls Tryd.prog 113 #[.pointer (some ⟨B3, 0, none⟩), .pointer (some ⟨B4, 0, none⟩), .pointer (some ⟨I, 0, none⟩), .pointer (some ⟨B5, 0, none⟩)] W Q := by
  have HCL := hid hcall
  have S0 : W.cell? ⟨B3, 0, none⟩ = some (.pointer (some ⟨g, 0, none⟩)) ∧ W.cell? ⟨B4, 0, none⟩ = some (.slice (some ad) len c1) ∧ W.cell? ⟨I, 0, none⟩ = some (.int .i64 i) ∧ W.cell? ⟨B5, 0, none⟩ = some (.pointer (some ⟨og, 0, none⟩)) := ⟨h3, h4, hI, h5⟩
  have hw1 : IntKind.i64.wrap ((i : Int) + 1) = (i : Int) + 1 := by rw [IntKind.wrap_i64]; omega
  clear hcall h3 h4 hI h5
  go_enter Tryd.func113, Tryd.ntmps113
  go_upto_region 0 with (fail)
  refine wp_region_heldD 6 (S := (fun W => W.cell? ⟨B3, 0, none⟩ = some (.pointer (some ⟨g, 0, none⟩)) ∧ W.cell? ⟨B4, 0, none⟩ = some (.slice (some ad) len c1) ∧ W.cell? ⟨I, 0, none⟩ = some (.int .i64 i) ∧ W.cell? ⟨B5, 0, none⟩ = some (.pointer (some ⟨og, 0, none⟩)))) (by kernel_rfl) ?hSa1 (fun hHeld => ?goa1)
  case hSa1 => exact keep6 S0 (Below.drew (Below.refl _ _))
  refine wpAnyD_take (i := 0) (oi := { dst := some 4, op := Go.Op.load 81 (Go.Operand.tmp 0), type := 81, pos := "law.go:80", after := #[], guard := none }) (v := ?_) rfl (by kernel_rfl) (by kernel_rfl) (by kernel_rfl) (fun _ _ _ h => h) (Or.inl ⟨by rfl, ?hya2⟩) (by assumption) (by kernel_rfl) ?resta2
  case hya2 => (intro w hSw; (try dsimp only at hSw); go_simp; first | (with_reducible rfl) | (rw [if_neg (by omega)]) | skip)
  simp only [Act.put, List.setIfInBounds_toArray, List.set_cons_zero, List.set_cons_succ]
  refine wpAnyD_take (i := 1) (oi := { dst := some 5, op := Go.Op.load 93 (Go.Operand.tmp 1), type := 93, pos := "law.go:80", after := #[], guard := none }) (v := ?_) rfl (by kernel_rfl) (by kernel_rfl) (by kernel_rfl) (fun _ _ _ h => h) (Or.inl ⟨by rfl, ?hya3⟩) (by assumption) (by kernel_rfl) ?resta3
  case hya3 => (intro w hSw; (try dsimp only at hSw); go_simp; first | (with_reducible rfl) | (rw [if_neg (by omega)]) | skip)
  simp only [Act.put, List.setIfInBounds_toArray, List.set_cons_zero, List.set_cons_succ]
  refine wpAnyD_take (i := 2) (oi := { dst := some 6, op := Go.Op.load 3 (Go.Operand.tmp 2), type := 3, pos := "law.go:80", after := #[], guard := none }) (v := ?_) rfl (by kernel_rfl) (by kernel_rfl) (by kernel_rfl) (fun _ _ _ h => h) (Or.inl ⟨by rfl, ?hya4⟩) (by assumption) (by kernel_rfl) ?resta4
  case hya4 => (intro w hSw; (try dsimp only at hSw); go_simp; first | (with_reducible rfl) | (rw [if_neg (by omega)]) | skip)
  simp only [Act.put, List.setIfInBounds_toArray, List.set_cons_zero, List.set_cons_succ]
  refine wpAnyD_take (i := 3) (oi := { dst := some 7, op := Go.Op.binOp Go.BinOp.add 3 (Go.Operand.tmp 6) (Go.Operand.const (Go.Value.int Go.IntKind.i64 1)) 3, type := 3, pos := "law.go:80", after := #[{ on := 2, ground := Go.Ground.data }], guard := none }) (v := ?_) rfl (by kernel_rfl) (by kernel_rfl) (by kernel_rfl) (fun _ _ _ h => h) (Or.inl ⟨by rfl, ?hya5⟩) (by assumption) (by kernel_rfl) ?resta5
  case hya5 => (intro w hSw; (try dsimp only at hSw); go_simp; first | (with_reducible rfl) | (rw [if_neg (by omega)]) | skip)
  simp only [Act.put, List.setIfInBounds_toArray, List.set_cons_zero, List.set_cons_succ]
  refine wpAnyD_take (i := 4) (oi := { dst := some 8, op := Go.Op.slice 93 (Go.Operand.tmp 5) (some (Go.Operand.tmp 7)) none none, type := 93, pos := "law.go:80", after := #[{ on := 1, ground := Go.Ground.data }, { on := 3, ground := Go.Ground.data }], guard := none }) (v := .slice (if c1 = i + 1 then some ad else some (ad.add ((i + 1) * 14))) (len - (i + 1)) (c1 - (i + 1))) rfl (by kernel_rfl) (by kernel_rfl) (by kernel_rfl) (fun _ _ _ h => h) (Or.inl ⟨by rfl, ?hya6⟩) (by assumption) (by kernel_rfl) ?resta6
  case hya6 => (intro w hSw; (try dsimp only at hSw); go_simp; exact fun h => absurd (h (by omega)) (by omega))
  simp only [Act.put, List.setIfInBounds_toArray, List.set_cons_zero, List.set_cons_succ]
  refine wpAnyD_take (i := 5) (oi := { dst := some 9, op := Go.Op.load 97 (Go.Operand.tmp 3), type := 97, pos := "law.go:80", after := #[], guard := none }) (v := ?_) rfl (by kernel_rfl) (by kernel_rfl) (by kernel_rfl) (fun _ _ _ h => h) (Or.inl ⟨by rfl, ?hya7⟩) (by assumption) (by kernel_rfl) ?resta7
  case hya7 => (intro w hSw; (try dsimp only at hSw); go_simp; first | (with_reducible rfl) | (rw [if_neg (by omega)]) | skip)
  simp only [Act.put, List.setIfInBounds_toArray, List.set_cons_zero, List.set_cons_succ]
  refine wpAnyD_ready (rs := [6]) (by kernel_rfl) (by simp) ?_
  refine AllReadyD.last (o := { dst := some 10, op := Go.Op.call { callee := Go.Callee.value (Go.Operand.func 56), args := #[Go.Operand.tmp 4, Go.Operand.tmp 8, Go.Operand.tmp 9], argTypes := #[81, 93, 97] }, type := 0, pos := "law.go:80", after := #[{ on := 0, ground := Go.Ground.data }, { on := 4, ground := Go.Ground.data }, { on := 5, ground := Go.Ground.data }], guard := none }) rfl (by kernel_rfl) (fun K hK => ?_)
  go_simp
  go_at_call 56; (with_reducible refine (HCL.out _ (Below.drew (Below.refl _ _))).mono ?_); rintro e w1 ⟨he, hq⟩; (rcases he with rfl | ⟨s, er, rfl⟩); (case inr => exact ⟨rfl, hq⟩)
  refine hK.out _ _ ?_
  clear hK K
  try simp only [Act.put, List.setIfInBounds_toArray, List.set_cons_zero, List.set_cons_succ]
  go_wp2_with fail
  all_goals (go_end0; exact hq)
end Go.Proofs.YtiohiiekaofkbaaDoor
