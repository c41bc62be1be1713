/- The statement LebPuts: what is put of any number, behind any bytes. -/
import Derived.Test.YtlpocahflolmpaaK0
namespace Go.Proofs.Ytlpocahflolmpaa
set_option linter.unusedVariables false
set_option linter.unusedSimpArgs false
open Go.RowKit

theorem Src.more {w : World} {B B' : Nat} {A : Option Addr} {c : Nat} {l : List Int} (h : Src w B A c l) (hB : B ≤ B') : Src w B' A c l := by
  rcases h with h | ⟨ad, e, hb, hc⟩
  · exact .inl h
  · exact .inr ⟨ad, e, fun q => Nat.lt_of_lt_of_le (hb q) hB, hc⟩
theorem refU_put {w : World} {A : Option Addr} {c : Nat} {l : List Int} {v : Int} (h0 : 0 ≤ v) (h1 : v ≤ 18446744073709551615) (h : Came w w.heap.size A c l) (hlen : l.length ≤ 60) (U : List Int) (hU : l ++ uL v = U) :
    Calls Try.prog 9 #[.slice A l.length c, .int .u64 v, .int .i64 0] w (fun e w' => ∃ g cap, e = .returned (.slice (some ⟨g, 0, none⟩) U.length cap) ∧ OwnAt w' w.heap.size g cap U ∧ Below w.heap.size w w') := by
  subst hU
  have hl := uL_len10 h0 h1
  have hp := uL_pos v
  refine (refPutU w A c l v 0 h0 h1 (by omega) (by omega) h.src (by rw [rU_zero v h0]; omega)).mono ?_
  rintro e w' ⟨x, rfl, hown, hbel, hsz⟩
  rw [rU_zero v h0] at hown
  obtain ⟨g, cap, rfl, hg0, hg1⟩ := hown.form (by simp; omega)
  exact ⟨g, cap, rfl, hown, hbel⟩
theorem refS_put {w : World} {B : Nat} {A : Option Addr} {c : Nat} {l : List Int} {v : Int} (h0 : -9223372036854775808 ≤ v) (h1 : v ≤ 9223372036854775807) (h : Came w B A c l) (hB : B ≤ w.heap.size) (hlen : l.length ≤ 60) (U : List Int) (hU : l ++ sL v = U) :
    Calls Try.prog 10 #[.slice A l.length c, .int .i64 v, .int .i64 0] w (fun e w' => ∃ g cap, e = .returned (.slice (some ⟨g, 0, none⟩) U.length cap) ∧ OwnAt w' w.heap.size g cap U ∧ Below w.heap.size w w') := by
  subst hU
  have hl := sL_len10 h0 h1
  have hp := sL_pos v
  refine (refPutS w A c l v 0 h0 h1 (by omega) (by omega) (h.src.more hB) (by rw [rS_zero v]; omega)).mono ?_
  rintro e w' ⟨x, rfl, hown, hbel, hsz⟩
  rw [rS_zero v] at hown
  obtain ⟨g, cap, rfl, hg0, hg1⟩ := hown.form (by simp; omega)
  exact ⟨g, cap, rfl, hown, hbel⟩
theorem lebU_put {w : World} {base : Nat} {x : Value} {l : List Int} {v : Int} (h0 : 0 ≤ v) (h1 : v ≤ 18446744073709551615) (hb : base ≤ w.heap.size) (h : Own w base x l) (hlen : l.length ≤ 60) (U : List Int) (hU : l ++ uL v = U) :
    Calls Try.prog 11 #[x, .int .u64 v] w (fun e w' => ∃ y, e = .returned y ∧ (convert 22 9 y).run Try.prog w' = .ok (.string (strOfNums U)) w' ∧ Below base w w' ∧ base ≤ w'.heap.size) := by
  subst hU
  have hl := uL_len10 h0 h1
  refine (lebPutU w base x l v h0 h1 hb h (by omega)).mono ?_
  rintro e w' ⟨y, rfl, hown, hbel, hsz⟩
  exact ⟨y, rfl, own_string hown, hbel, hsz⟩
theorem lebS_put {w : World} {base : Nat} {x : Value} {l : List Int} {v : Int} (h0 : -9223372036854775808 ≤ v) (h1 : v ≤ 9223372036854775807) (hb : base ≤ w.heap.size) (h : Own w base x l) (hlen : l.length ≤ 60) (U : List Int) (hU : l ++ sL v = U) :
    Calls Try.prog 12 #[x, .int .i64 v] w (fun e w' => ∃ y, e = .returned y ∧ (convert 22 9 y).run Try.prog w' = .ok (.string (strOfNums U)) w' ∧ Below base w w' ∧ base ≤ w'.heap.size) := by
  subst hU
  have hl := sL_len10 h0 h1
  refine (lebPutS w base x l v h0 h1 hb h (by omega)).mono ?_
  rintro e w' ⟨y, rfl, hown, hbel, hsz⟩
  exact ⟨y, rfl, own_string hown, hbel, hsz⟩

theorem step_append_src {P : Program} {w : World} {ops : Array Oper} {o : Oper} {a : Act} {K : Act → World → Prop} {Q : Exit → Act → World → Prop} {E : Prop} (hw : Region.wanted o (yielded ops a.tmps) = true) (s x : Operand) (t : TypeId)
    (ho : o.op = .call { callee := .builtin .append, args := #[s, x], argTypes := #[t, t] })
    (base : Nat) (e : TypeId) (i : TypeInfo) (z : Value) (ht : P.underlying t = some (.slice e)) (hi : P.info? e = some i) (hz : i.zero = some z)
    (hsize : i.size = 1) (hby : i.bytes = 1) (hzs : z.cells.size = 1)
    (v : Value) (n : Nat) (xs : List Value) (hs : a.eval s = v) (hown : w.ownsRow base e 1 v n xs)
    (B : Nat) (A : Option Addr) (c : Nat) (l : List Int) (hx : a.eval x = .slice A l.length c) (hsrc : Src w B A c l)
    (hlen : n + l.length ≤ 1000000000) (hbase : base ≤ w.heap.size)
    (h : ∀ v' w', w'.ownsRow base e 1 v' (n + l.length) (xs ++ bv l) → w.grownBy w' v.ownBlock → K (a.put o.dst v') w') :
    if Region.wanted o (yielded ops a.tmps) = true then Oper.wp P o a w K Q else E := by
  rw [if_pos hw]
  rcases hsrc with ⟨rfl, rfl, rfl⟩ | ⟨ad, rfl, _, hc⟩
  · have hrun := run_append_owned_none (P := P) (w := w) base t o.type e i 1 ht hi v n xs hown
    have hx' : a.eval x = .slice none 0 0 := by simpa using hx
    unfold Oper.wp
    simp [execOp, ho, resolve, invoke, builtin, hs, hx', hrun, Result.andThen]
    exact h v w (by simpa [bv] using hown) (World.grownBy.refl w _)
  · obtain ⟨v', w', hrun, h2, h3, _⟩ := run_append_own (P := P) w base t o.type e i z 1 1 ht hi hz hsize hby hzs (by decide) v n xs hown ad l.length c (bv l) (by simp [bv]) hc
      (by intro u hu; simp only [bv, List.mem_map] at hu; obtain ⟨y, _, rfl⟩ := hu; rfl) (by unfold maxLen; omega) (by omega) hbase
    unfold Oper.wp execOp
    simp only [ho, resolve, invoke, builtin, Sem.run_bind, Sem.run_pure, Result.andThen_ok, List.map_toArray, List.map_cons, List.map_nil, hs, hx, hrun]
    exact h v' w' h2 h3

theorem first_any {w0 W w1 : World} {B base : Nat} {v v1 : Value} {l : List Int} {n : Nat} (hB : Below B w0 W) (hs : B ≤ W.heap.size) (hv : ∀ k, v.ownBlock = some k → B ≤ k)
    (h1 : w1.ownsRow base 5 1 v1 n ([] ++ bv l)) (hn : n = l.length) (hg : W.grownBy w1 v.ownBlock) : Own w1 base v1 l ∧ Below B w0 w1 ∧ B ≤ w1.heap.size :=
  ⟨by subst hn; unfold Own; simpa using h1, hB.grown hg hs hv, Nat.le_trans hs hg.size⟩
theorem two_conv {w w' : World} {b1 b2 g1 c1 g2 c2 : Nat} {U S : List Int} (h1 : OwnAt w b1 g1 c1 U) (h2 : OwnAt w b2 g2 c2 S) (hb : Below w.heap.size w w') :
    (convert 22 9 (.slice (some ⟨g1, 0, none⟩) U.length c1)).run Try.prog w' = .ok (.string (strOfNums U)) w' ∧ (convert 22 9 (.slice (some ⟨g2, 0, none⟩) S.length c2)).run Try.prog w' = .ok (.string (strOfNums S)) w' ∧ Below w.heap.size w w' ∧ w.heap.size ≤ w'.heap.size :=
  ⟨own_string (h1.keep hb), own_string (h2.keep hb), hb, hb.size⟩

set_option maxRecDepth 100000 in
set_option maxHeartbeats 8000000 in
theorem puts_yes (A : Option Addr) (c : Nat) (l : List Int) (v : Int) (w : World) (h : Came w w.heap.size A c l) (h60 : l.length ≤ 60) (h0 : 0 ≤ v) (h1 : v ≤ 18446744073709551615) :
    Calls Try.prog 3 #[.slice A l.length c, .int .u64 v] w (fun e w' => e = .returned (.bool true) ∧ Below w.heap.size w w') := by
  obtain ⟨i0, hi0, hz0, hz1, hz2⟩ := info_parts info5
  have x0 : -9223372036854775808 ≤ wrap64 v := by unfold wrap64; omega
  have x1 : wrap64 v ≤ 9223372036854775807 := by unfold wrap64; omega
  obtain ⟨U, hU⟩ : ∃ U, l ++ uL v = U := ⟨_, rfl⟩
  obtain ⟨S, hS⟩ : ∃ S, l ++ sL (wrap64 v) = S := ⟨_, rfl⟩
  have HU := hid hU
  have HS := hid hS
  have HC := hid h
  clear hU hS h
  go_enter Try.func3, Try.ntmps3
  go_upto_region 4 with (first
    | (go_at_call 9; ((with_reducible refine (refU_put h0 h1 HC.out h60 U HU.out).mono ?_); rintro e w' ⟨gu, cu, rfl, hown, hb1⟩; have k1 := chain (Below.refl _ _) hb1 (Nat.le_refl _); have zz1 := k1.2; have K1 := hid k1.1; have OU := hid hown; clear k1 hb1 hown))
    | (go_at_call 10; ((with_reducible refine (refS_put x0 x1 (HC.out.below K1.out (Nat.le_refl _)) zz1 h60 S HS.out).mono ?_); rintro e w' ⟨gs, cs, rfl, hown, hb1⟩; have k1 := chain K1.out hb1 zz1; have zz2 := k1.2; have K2 := hid k1.1; have OS := hid hown; have OU2 := hid (OU.out.keep hb1); clear k1 hb1 hown)))
  obtain ⟨w4, rfl⟩ : ∃ w4 : World, w4 = w' := ⟨_, rfl⟩
  have SRC := hid (HC.out.below K2.out (Nat.le_refl _)).src
  have e1 : IntKind.i64.wrap ((U.length : Int) - l.length) = (uL v).length := by
    have := uL_len10 h0 h1
    rw [← HU.out]; simp [IntKind.wrap_i64]; omega
  have e2 : IntKind.i64.wrap ((S.length : Int) - l.length) = (sL (wrap64 v)).length := by
    have := sL_len10 x0 x1
    rw [← HS.out]; simp [IntKind.wrap_i64]; omega
  have ew : IntKind.i64.wrap v = wrap64 v := by simp [IntKind.wrap_i64, wrap64]
  refine wp_region_noPanic ?_
  refine wp_region_held_drew (S := (fun wz => (convert 22 9 (.slice (some ⟨gu, 0, none⟩) U.length cu)).run Try.prog wz = .ok (.string (strOfNums U)) wz ∧ (convert 22 9 (.slice (some ⟨gs, 0, none⟩) S.length cs)).run Try.prog wz = .ok (.string (strOfNums S)) wz ∧ Below w4.heap.size w4 wz ∧ w4.heap.size ≤ wz.heap.size)) (by kernel_rfl) ?hS (fun hHeld => ?go)
  case hS => exact two_conv OU2.out OS.out (by repeat (first | exact Below.refl _ _ | assumption | refine Below.alloc ?_ (by first | exact Nat.le_refl _ | (simp; done) | (simp; omega) | omega) _ | refine Below.drew ?_ | refine Below.setCell ?_ (by first | exact Nat.le_refl _ | (simp; done) | (simp; omega) | omega) _ | refine below_call ?_ (by assumption) (by first | exact Nat.le_refl _ | (simp; done) | (simp; omega) | omega)))
  refine wpAnyH_take (i := 1) (oi := { dst := some 18, op := Go.Op.move (Go.Operand.tmp 0), type := 22, pos := "law.go:26", after := #[], guard := none }) (v := ?_) rfl (by kernel_rfl) (by kernel_rfl) (by kernel_rfl) (fun _ _ _ h => h) (Or.inl ⟨by rfl, ?hy1⟩) (by assumption) ?rest1
  case hy1 => (intro w hSw; (try dsimp only at hSw); go_simp; try with_reducible rfl)
  simp only [Act.put, List.setIfInBounds_toArray, List.set_cons_zero, List.set_cons_succ]
  refine wpAnyH_take (i := 3) (oi := { dst := some 20, op := Go.Op.move (Go.Operand.tmp 1), type := 23, pos := "law.go:26", after := #[], guard := none }) (v := ?_) rfl (by kernel_rfl) (by kernel_rfl) (by kernel_rfl) (fun _ _ _ h => h) (Or.inl ⟨by rfl, ?hy3⟩) (by assumption) ?rest3
  case hy3 => (intro w hSw; (try dsimp only at hSw); go_simp; try with_reducible rfl)
  simp only [Act.put, List.setIfInBounds_toArray, List.set_cons_zero, List.set_cons_succ]
  refine wpAnyH_take (i := 6) (oi := { dst := some 23, op := Go.Op.move (Go.Operand.tmp 5), type := 22, pos := "law.go:26", after := #[], guard := none }) (v := ?_) rfl (by kernel_rfl) (by kernel_rfl) (by kernel_rfl) (fun _ _ _ h => h) (Or.inl ⟨by rfl, ?hy6⟩) (by assumption) ?rest6
  case hy6 => (intro w hSw; (try dsimp only at hSw); go_simp; try with_reducible rfl)
  simp only [Act.put, List.setIfInBounds_toArray, List.set_cons_zero, List.set_cons_succ]
  refine wpAnyH_take (i := 7) (oi := { dst := some 24, op := Go.Op.convert 22 9 (Go.Operand.tmp 23), type := 9, pos := "law.go:26", after := #[{ on := 6, ground := Go.Ground.data }], guard := none }) (v := ?_) rfl (by kernel_rfl) (by kernel_rfl) (by kernel_rfl) (fun _ _ _ h => h) (Or.inl ⟨by rfl, ?hy7⟩) (by assumption) ?rest7
  case hy7 => (intro w hSw; (try dsimp only at hSw); go_simp; try with_reducible rfl)
  simp only [Act.put, List.setIfInBounds_toArray, List.set_cons_zero, List.set_cons_succ]
  refine wpAnyH_ready (rs := [0]) (by kernel_rfl) (by simp) ?_
  refine AllReadyH.cons (o := { dst := some 17, op := Go.Op.buildSlice 22 0 #[], type := 22, pos := "law.go:26", after := #[], guard := none }) rfl (fun K hK => ?_) AllReadyH.nil
  go_simp
  refine hK.out _ _ ?_ (fun hHeld => ?_)
  · (try dsimp only); exact two_conv OU2.out OS.out (by repeat (first | exact Below.refl _ _ | assumption | refine Below.alloc ?_ (by first | exact Nat.le_refl _ | (simp; done) | (simp; omega) | omega) _ | refine Below.drew ?_ | refine Below.setCell ?_ (by first | exact Nat.le_refl _ | (simp; done) | (simp; omega) | omega) _ | refine below_call ?_ (by assumption) (by first | exact Nat.le_refl _ | (simp; done) | (simp; omega) | omega)))
  clear hK K
  try simp only [Act.put, List.setIfInBounds_toArray, List.set_cons_zero, List.set_cons_succ]
  refine wpAnyH_ready (rs := [2]) (by kernel_rfl) (by simp) ?_
  refine AllReadyH.cons (o := { dst := some 19, op := Go.Op.call { callee := Go.Callee.builtin Go.Builtin.append, args := #[Go.Operand.tmp 17, Go.Operand.tmp 18], argTypes := #[22, 22] }, type := 22, pos := "law.go:26", after := #[{ on := 0, ground := Go.Ground.data }, { on := 1, ground := Go.Ground.data }], guard := none }) rfl (fun K hK => ?_) AllReadyH.nil
  refine step_append_src (by rfl) (.tmp 17) (.tmp 18) 22 (by rfl) w4.heap.size 5 i0 (.int .u8 0) Try.underlying22 hi0 hz0 hz1 hz2 rfl _ 0 [] (by rfl) (World.ownsRow.drew (lit_empty w4 _ (Nat.le_refl _))) w.heap.size A c l (by rfl) (SRC.out.below (B' := w4.heap.size) (by repeat (first | exact Below.refl _ _ | assumption | refine Below.alloc ?_ (by first | exact Nat.le_refl _ | (simp; done) | (simp; omega) | omega) _ | refine Below.drew ?_ | refine Below.setCell ?_ (by first | exact Nat.le_refl _ | (simp; done) | (simp; omega) | omega) _ | refine below_call ?_ (by assumption) (by first | exact Nat.le_refl _ | (simp; done) | (simp; omega) | omega))) zz2) (by omega) (by simp) ?_; intro va wa howna hgrowa; obtain ⟨ka1, ka2, ka3⟩ := first_any (w0 := w4) (B := w4.heap.size) (by repeat (first | exact Below.refl _ _ | assumption | refine Below.alloc ?_ (by first | exact Nat.le_refl _ | (simp; done) | (simp; omega) | omega) _ | refine Below.drew ?_ | refine Below.setCell ?_ (by first | exact Nat.le_refl _ | (simp; done) | (simp; omega) | omega) _ | refine below_call ?_ (by assumption) (by first | exact Nat.le_refl _ | (simp; done) | (simp; omega) | omega))) (by simp) (lit_block (Nat.le_refl _) _ _) howna (by omega) hgrowa; have KA1 := hid ka1; clear ka1 howna hgrowa
  refine hK.out _ _ ?_ (fun hHeld => ?_)
  · (try dsimp only); exact two_conv OU2.out OS.out (by repeat (first | exact Below.refl _ _ | assumption | refine Below.alloc ?_ (by first | exact Nat.le_refl _ | (simp; done) | (simp; omega) | omega) _ | refine Below.drew ?_ | refine Below.setCell ?_ (by first | exact Nat.le_refl _ | (simp; done) | (simp; omega) | omega) _ | refine below_call ?_ (by assumption) (by first | exact Nat.le_refl _ | (simp; done) | (simp; omega) | omega)))
  clear hK K
  try simp only [Act.put, List.setIfInBounds_toArray, List.set_cons_zero, List.set_cons_succ]
  refine wpAnyH_ready (rs := [4]) (by kernel_rfl) (by simp) ?_
  refine AllReadyH.cons (o := { dst := some 21, op := Go.Op.call { callee := Go.Callee.value (Go.Operand.func 11), args := #[Go.Operand.tmp 19, Go.Operand.tmp 20], argTypes := #[22, 23] }, type := 22, pos := "law.go:26", after := #[{ on := 2, ground := Go.Ground.data }, { on := 3, ground := Go.Ground.data }, { on := 2, ground := Go.Ground.chain }], guard := none }) rfl (fun K hK => ?_) AllReadyH.nil
  go_simp
  go_at_call 11; (with_reducible refine (lebU_put h0 h1 ka3 KA1.out h60 U HU.out).mono ?_); rintro e w' ⟨y, rfl, hcv, hb1, hz5⟩; have hb5 := ka2.trans hb1
  refine hK.out _ _ ?_ (fun hHeld => ?_)
  · (try dsimp only); exact two_conv OU2.out OS.out (by repeat (first | exact Below.refl _ _ | assumption | refine Below.alloc ?_ (by first | exact Nat.le_refl _ | (simp; done) | (simp; omega) | omega) _ | refine Below.drew ?_ | refine Below.setCell ?_ (by first | exact Nat.le_refl _ | (simp; done) | (simp; omega) | omega) _ | refine below_call ?_ (by assumption) (by first | exact Nat.le_refl _ | (simp; done) | (simp; omega) | omega)))
  clear hK K
  try simp only [Act.put, List.setIfInBounds_toArray, List.set_cons_zero, List.set_cons_succ]
  refine wpAnyH_ready (rs := [5]) (by kernel_rfl) (by simp) ?_
  refine AllReadyH.cons (o := { dst := some 22, op := Go.Op.convert 22 9 (Go.Operand.tmp 21), type := 9, pos := "law.go:26", after := #[{ on := 4, ground := Go.Ground.data }], guard := none }) rfl (fun K hK => ?_) AllReadyH.nil
  go_simp
  refine hK.out _ _ ?_ (fun hHeld => ?_)
  · (try dsimp only); exact two_conv OU2.out OS.out (by repeat (first | exact Below.refl _ _ | assumption | refine Below.alloc ?_ (by first | exact Nat.le_refl _ | (simp; done) | (simp; omega) | omega) _ | refine Below.drew ?_ | refine Below.setCell ?_ (by first | exact Nat.le_refl _ | (simp; done) | (simp; omega) | omega) _ | refine below_call ?_ (by assumption) (by first | exact Nat.le_refl _ | (simp; done) | (simp; omega) | omega)))
  clear hK K
  try simp only [Act.put, List.setIfInBounds_toArray, List.set_cons_zero, List.set_cons_succ]
  refine wpAnyH_take (i := 8) (oi := { dst := some 25, op := Go.Op.binOp Go.BinOp.eql 9 (Go.Operand.tmp 22) (Go.Operand.tmp 24) 9, type := 4, pos := "law.go:26", after := #[{ on := 5, ground := Go.Ground.data }, { on := 7, ground := Go.Ground.data }], guard := none }) (v := ?_) rfl (by kernel_rfl) (by kernel_rfl) (by kernel_rfl) (fun _ _ _ h => h) (Or.inl ⟨by rfl, ?hy8⟩) (by assumption) ?rest8
  case hy8 => (intro w hSw; (try dsimp only at hSw); go_simp; try with_reducible rfl)
  simp only [Act.put, List.setIfInBounds_toArray, List.set_cons_zero, List.set_cons_succ]
  refine wpAnyH_take (i := 9) (oi := { dst := some 26, op := Go.Op.move (Go.Operand.tmp 25), type := 4, pos := "law.go:26", after := #[{ on := 8, ground := Go.Ground.data }, { on := 4, ground := Go.Ground.chain }], guard := none }) (v := ?_) rfl (by kernel_rfl) (by kernel_rfl) (by kernel_rfl) (fun _ _ _ h => h) (Or.inl ⟨by rfl, ?hy9⟩) (by assumption) ?rest9
  case hy9 => (intro w hSw; (try dsimp only at hSw); go_simp; try with_reducible rfl)
  simp only [Act.put, List.setIfInBounds_toArray, List.set_cons_zero, List.set_cons_succ]
  refine wpAnyH_take (i := 11) (oi := { dst := some 28, op := Go.Op.move (Go.Operand.tmp 0), type := 22, pos := "law.go:26", after := #[{ on := 9, ground := Go.Ground.guard }], guard := some (9, true) }) (v := ?_) rfl (by kernel_rfl) (by kernel_rfl) (by kernel_rfl) (fun _ _ _ h => h) (Or.inl ⟨by rfl, ?hy11⟩) (by assumption) ?rest11
  case hy11 => (intro w hSw; (try dsimp only at hSw); go_simp; try with_reducible rfl)
  simp only [Act.put, List.setIfInBounds_toArray, List.set_cons_zero, List.set_cons_succ]
  refine wpAnyH_take (i := 13) (oi := { dst := some 30, op := Go.Op.move (Go.Operand.tmp 1), type := 23, pos := "law.go:26", after := #[{ on := 9, ground := Go.Ground.guard }], guard := some (9, true) }) (v := ?_) rfl (by kernel_rfl) (by kernel_rfl) (by kernel_rfl) (fun _ _ _ h => h) (Or.inl ⟨by rfl, ?hy13⟩) (by assumption) ?rest13
  case hy13 => (intro w hSw; (try dsimp only at hSw); go_simp; try with_reducible rfl)
  simp only [Act.put, List.setIfInBounds_toArray, List.set_cons_zero, List.set_cons_succ]
  refine wpAnyH_take (i := 14) (oi := { dst := some 31, op := Go.Op.convert 23 2 (Go.Operand.tmp 30), type := 2, pos := "law.go:26", after := #[{ on := 13, ground := Go.Ground.data }, { on := 9, ground := Go.Ground.guard }], guard := some (9, true) }) (v := ?_) rfl (by kernel_rfl) (by kernel_rfl) (by kernel_rfl) (fun _ _ _ h => h) (Or.inl ⟨by rfl, ?hy14⟩) (by assumption) ?rest14
  case hy14 => (intro w hSw; (try dsimp only at hSw); go_simp; try with_reducible rfl)
  simp only [Act.put, List.setIfInBounds_toArray, List.set_cons_zero, List.set_cons_succ]
  refine wpAnyH_take (i := 17) (oi := { dst := some 34, op := Go.Op.move (Go.Operand.tmp 6), type := 22, pos := "law.go:26", after := #[{ on := 9, ground := Go.Ground.guard }], guard := some (9, true) }) (v := ?_) rfl (by kernel_rfl) (by kernel_rfl) (by kernel_rfl) (fun _ _ _ h => h) (Or.inl ⟨by rfl, ?hy17⟩) (by assumption) ?rest17
  case hy17 => (intro w hSw; (try dsimp only at hSw); go_simp; try with_reducible rfl)
  simp only [Act.put, List.setIfInBounds_toArray, List.set_cons_zero, List.set_cons_succ]
  refine wpAnyH_take (i := 18) (oi := { dst := some 35, op := Go.Op.convert 22 9 (Go.Operand.tmp 34), type := 9, pos := "law.go:26", after := #[{ on := 17, ground := Go.Ground.data }, { on := 9, ground := Go.Ground.guard }], guard := some (9, true) }) (v := ?_) rfl (by kernel_rfl) (by kernel_rfl) (by kernel_rfl) (fun _ _ _ h => h) (Or.inl ⟨by rfl, ?hy18⟩) (by assumption) ?rest18
  case hy18 => (intro w hSw; (try dsimp only at hSw); go_simp; try with_reducible rfl)
  simp only [Act.put, List.setIfInBounds_toArray, List.set_cons_zero, List.set_cons_succ]
  refine wpAnyH_ready (rs := [10]) (by kernel_rfl) (by simp) ?_
  refine AllReadyH.cons (o := { dst := some 27, op := Go.Op.buildSlice 22 0 #[], type := 22, pos := "law.go:26", after := #[{ on := 9, ground := Go.Ground.guard }], guard := some (9, true) }) rfl (fun K hK => ?_) AllReadyH.nil
  go_simp
  refine hK.out _ _ ?_ (fun hHeld => ?_)
  · (try dsimp only); exact two_conv OU2.out OS.out (by repeat (first | exact Below.refl _ _ | assumption | refine Below.alloc ?_ (by first | exact Nat.le_refl _ | (simp; done) | (simp; omega) | omega) _ | refine Below.drew ?_ | refine Below.setCell ?_ (by first | exact Nat.le_refl _ | (simp; done) | (simp; omega) | omega) _ | refine below_call ?_ (by assumption) (by first | exact Nat.le_refl _ | (simp; done) | (simp; omega) | omega)))
  clear hK K
  try simp only [Act.put, List.setIfInBounds_toArray, List.set_cons_zero, List.set_cons_succ]
  refine wpAnyH_ready (rs := [12]) (by kernel_rfl) (by simp) ?_
  refine AllReadyH.cons (o := { dst := some 29, op := Go.Op.call { callee := Go.Callee.builtin Go.Builtin.append, args := #[Go.Operand.tmp 27, Go.Operand.tmp 28], argTypes := #[22, 22] }, type := 22, pos := "law.go:26", after := #[{ on := 10, ground := Go.Ground.data }, { on := 11, ground := Go.Ground.data }, { on := 9, ground := Go.Ground.chain }, { on := 9, ground := Go.Ground.guard }], guard := some (9, true) }) rfl (fun K hK => ?_) AllReadyH.nil
  refine step_append_src (by rfl) (.tmp 27) (.tmp 28) 22 (by rfl) w4.heap.size 5 i0 (.int .u8 0) Try.underlying22 hi0 hz0 hz1 hz2 rfl _ 0 [] (by rfl) (lit_empty _ _ hz5) w.heap.size A c l (by rfl) (SRC.out.below (B' := w4.heap.size) (hb5.alloc hz5 _) zz2) (by omega) (Nat.le_trans hz5 (by simp)) ?_; intro va2 wa2 howna hgrowa; obtain ⟨kb1, kb2, kb3⟩ := first_any (w0 := w4) (B := w4.heap.size) (hb5.alloc hz5 _) (Nat.le_trans hz5 (by simp)) (lit_block hz5 _ _) howna (by omega) hgrowa; have KB1 := hid kb1; clear kb1 howna hgrowa
  refine hK.out _ _ ?_ (fun hHeld => ?_)
  · (try dsimp only); exact two_conv OU2.out OS.out (by repeat (first | exact Below.refl _ _ | assumption | refine Below.alloc ?_ (by first | exact Nat.le_refl _ | (simp; done) | (simp; omega) | omega) _ | refine Below.drew ?_ | refine Below.setCell ?_ (by first | exact Nat.le_refl _ | (simp; done) | (simp; omega) | omega) _ | refine below_call ?_ (by assumption) (by first | exact Nat.le_refl _ | (simp; done) | (simp; omega) | omega)))
  clear hK K
  try simp only [Act.put, List.setIfInBounds_toArray, List.set_cons_zero, List.set_cons_succ]
  refine wpAnyH_ready (rs := [15]) (by kernel_rfl) (by simp) ?_
  refine AllReadyH.cons (o := { dst := some 32, op := Go.Op.call { callee := Go.Callee.value (Go.Operand.func 12), args := #[Go.Operand.tmp 29, Go.Operand.tmp 31], argTypes := #[22, 2] }, type := 22, pos := "law.go:26", after := #[{ on := 12, ground := Go.Ground.data }, { on := 14, ground := Go.Ground.data }, { on := 12, ground := Go.Ground.chain }, { on := 9, ground := Go.Ground.guard }], guard := some (9, true) }) rfl (fun K hK => ?_) AllReadyH.nil
  go_simp
  go_at_call 12; (with_reducible refine (lebS_put x0 x1 kb3 KB1.out h60 S HS.out).mono ?_); rintro e w' ⟨y2, rfl, hcv2, hb1, hz6⟩; have hb6 := kb2.trans hb1
  refine hK.out _ _ ?_ (fun hHeld => ?_)
  · (try dsimp only); exact two_conv OU2.out OS.out (by repeat (first | exact Below.refl _ _ | assumption | refine Below.alloc ?_ (by first | exact Nat.le_refl _ | (simp; done) | (simp; omega) | omega) _ | refine Below.drew ?_ | refine Below.setCell ?_ (by first | exact Nat.le_refl _ | (simp; done) | (simp; omega) | omega) _ | refine below_call ?_ (by assumption) (by first | exact Nat.le_refl _ | (simp; done) | (simp; omega) | omega)))
  clear hK K
  try simp only [Act.put, List.setIfInBounds_toArray, List.set_cons_zero, List.set_cons_succ]
  refine wpAnyH_ready (rs := [16]) (by kernel_rfl) (by simp) ?_
  refine AllReadyH.cons (o := { dst := some 33, op := Go.Op.convert 22 9 (Go.Operand.tmp 32), type := 9, pos := "law.go:26", after := #[{ on := 15, ground := Go.Ground.data }, { on := 9, ground := Go.Ground.guard }], guard := some (9, true) }) rfl (fun K hK => ?_) AllReadyH.nil
  go_simp
  refine hK.out _ _ ?_ (fun hHeld => ?_)
  · (try dsimp only); exact two_conv OU2.out OS.out (by repeat (first | exact Below.refl _ _ | assumption | refine Below.alloc ?_ (by first | exact Nat.le_refl _ | (simp; done) | (simp; omega) | omega) _ | refine Below.drew ?_ | refine Below.setCell ?_ (by first | exact Nat.le_refl _ | (simp; done) | (simp; omega) | omega) _ | refine below_call ?_ (by assumption) (by first | exact Nat.le_refl _ | (simp; done) | (simp; omega) | omega)))
  clear hK K
  try simp only [Act.put, List.setIfInBounds_toArray, List.set_cons_zero, List.set_cons_succ]
  refine wpAnyH_take (i := 19) (oi := { dst := some 36, op := Go.Op.binOp Go.BinOp.eql 9 (Go.Operand.tmp 33) (Go.Operand.tmp 35) 9, type := 4, pos := "law.go:26", after := #[{ on := 16, ground := Go.Ground.data }, { on := 18, ground := Go.Ground.data }, { on := 9, ground := Go.Ground.guard }], guard := some (9, true) }) (v := ?_) rfl (by kernel_rfl) (by kernel_rfl) (by kernel_rfl) (fun _ _ _ h => h) (Or.inl ⟨by rfl, ?hy19⟩) (by assumption) ?rest19
  case hy19 => (intro w hSw; (try dsimp only at hSw); go_simp; try with_reducible rfl)
  simp only [Act.put, List.setIfInBounds_toArray, List.set_cons_zero, List.set_cons_succ]
  refine wpAnyH_take (i := 20) (oi := { dst := some 37, op := Go.Op.pick (Go.Operand.tmp 26) (Go.Operand.tmp 36) (Go.Operand.const (Go.Value.bool false)), type := 4, pos := "law.go:26", after := #[{ on := 9, ground := Go.Ground.data }, { on := 19, ground := Go.Ground.data }], guard := none }) (v := ?_) rfl (by kernel_rfl) (by kernel_rfl) (by kernel_rfl) (fun _ _ _ h => h) (Or.inl ⟨by rfl, ?hy20⟩) (by assumption) ?rest20
  case hy20 => (intro w hSw; (try dsimp only at hSw); go_simp; try with_reducible rfl)
  simp only [Act.put, List.setIfInBounds_toArray, List.set_cons_zero, List.set_cons_succ]
  refine wpAnyH_take (i := 21) (oi := { dst := some 38, op := Go.Op.move (Go.Operand.tmp 37), type := 4, pos := "law.go:26", after := #[{ on := 20, ground := Go.Ground.data }, { on := 15, ground := Go.Ground.chain }], guard := none }) (v := ?_) rfl (by kernel_rfl) (by kernel_rfl) (by kernel_rfl) (fun _ _ _ h => h) (Or.inl ⟨by rfl, ?hy21⟩) (by assumption) ?rest21
  case hy21 => (intro w hSw; (try dsimp only at hSw); go_simp; try with_reducible rfl)
  simp only [Act.put, List.setIfInBounds_toArray, List.set_cons_zero, List.set_cons_succ]
  refine wpAnyH_take (i := 22) (oi := { dst := some 39, op := Go.Op.move (Go.Operand.tmp 1), type := 23, pos := "law.go:26", after := #[{ on := 21, ground := Go.Ground.guard }], guard := some (21, true) }) (v := ?_) rfl (by kernel_rfl) (by kernel_rfl) (by kernel_rfl) (fun _ _ _ h => h) (Or.inl ⟨by rfl, ?hy22⟩) (by assumption) ?rest22
  case hy22 => (intro w hSw; (try dsimp only at hSw); go_simp; try with_reducible rfl)
  simp only [Act.put, List.setIfInBounds_toArray, List.set_cons_zero, List.set_cons_succ]
  refine wpAnyH_take (i := 24) (oi := { dst := some 41, op := Go.Op.move (Go.Operand.tmp 5), type := 22, pos := "law.go:26", after := #[{ on := 21, ground := Go.Ground.guard }], guard := some (21, true) }) (v := ?_) rfl (by kernel_rfl) (by kernel_rfl) (by kernel_rfl) (fun _ _ _ h => h) (Or.inl ⟨by rfl, ?hy24⟩) (by assumption) ?rest24
  case hy24 => (intro w hSw; (try dsimp only at hSw); go_simp; try with_reducible rfl)
  simp only [Act.put, List.setIfInBounds_toArray, List.set_cons_zero, List.set_cons_succ]
  refine wpAnyH_take (i := 25) (oi := { dst := some 42, op := Go.Op.call { callee := Go.Callee.builtin Go.Builtin.len, args := #[Go.Operand.tmp 41], argTypes := #[22] }, type := 3, pos := "law.go:26", after := #[{ on := 24, ground := Go.Ground.data }, { on := 21, ground := Go.Ground.guard }], guard := some (21, true) }) (v := ?_) rfl (by kernel_rfl) (by kernel_rfl) (by kernel_rfl) (fun _ _ _ h => h) (Or.inl ⟨by rfl, ?hy25⟩) (by assumption) ?rest25
  case hy25 => (intro w hSw; (try dsimp only at hSw); go_simp; try with_reducible rfl)
  simp only [Act.put, List.setIfInBounds_toArray, List.set_cons_zero, List.set_cons_succ]
  refine wpAnyH_take (i := 26) (oi := { dst := some 43, op := Go.Op.move (Go.Operand.tmp 0), type := 22, pos := "law.go:26", after := #[{ on := 21, ground := Go.Ground.guard }], guard := some (21, true) }) (v := ?_) rfl (by kernel_rfl) (by kernel_rfl) (by kernel_rfl) (fun _ _ _ h => h) (Or.inl ⟨by rfl, ?hy26⟩) (by assumption) ?rest26
  case hy26 => (intro w hSw; (try dsimp only at hSw); go_simp; try with_reducible rfl)
  simp only [Act.put, List.setIfInBounds_toArray, List.set_cons_zero, List.set_cons_succ]
  refine wpAnyH_take (i := 27) (oi := { dst := some 44, op := Go.Op.call { callee := Go.Callee.builtin Go.Builtin.len, args := #[Go.Operand.tmp 43], argTypes := #[22] }, type := 3, pos := "law.go:26", after := #[{ on := 26, ground := Go.Ground.data }, { on := 21, ground := Go.Ground.guard }], guard := some (21, true) }) (v := ?_) rfl (by kernel_rfl) (by kernel_rfl) (by kernel_rfl) (fun _ _ _ h => h) (Or.inl ⟨by rfl, ?hy27⟩) (by assumption) ?rest27
  case hy27 => (intro w hSw; (try dsimp only at hSw); go_simp; try with_reducible rfl)
  simp only [Act.put, List.setIfInBounds_toArray, List.set_cons_zero, List.set_cons_succ]
  refine wpAnyH_take (i := 28) (oi := { dst := some 45, op := Go.Op.binOp Go.BinOp.sub 3 (Go.Operand.tmp 42) (Go.Operand.tmp 44) 3, type := 3, pos := "law.go:26", after := #[{ on := 25, ground := Go.Ground.data }, { on := 27, ground := Go.Ground.data }, { on := 21, ground := Go.Ground.guard }], guard := some (21, true) }) (v := ?_) rfl (by kernel_rfl) (by kernel_rfl) (by kernel_rfl) (fun _ _ _ h => h) (Or.inl ⟨by rfl, ?hy28⟩) (by assumption) ?rest28
  case hy28 => (intro w hSw; (try dsimp only at hSw); go_simp; try with_reducible rfl)
  simp only [Act.put, List.setIfInBounds_toArray, List.set_cons_zero, List.set_cons_succ]
  refine wpAnyH_ready (rs := [23]) (by kernel_rfl) (by simp) ?_
  refine AllReadyH.cons (o := { dst := some 40, op := Go.Op.call { callee := Go.Callee.value (Go.Operand.func 13), args := #[Go.Operand.tmp 39], argTypes := #[23] }, type := 3, pos := "law.go:26", after := #[{ on := 22, ground := Go.Ground.data }, { on := 21, ground := Go.Ground.chain }, { on := 21, ground := Go.Ground.guard }], guard := some (21, true) }) rfl (fun K hK => ?_) AllReadyH.nil
  go_simp
  go_at_call 13; (with_reducible refine (lebSizeU _ v h0 h1).mono ?_); rintro e w' ⟨rfl, hb1⟩; have hb7 := below_call hb6 hb1 hz6; have hz7 := Nat.le_trans hz6 hb1.size
  refine hK.out _ _ ?_ (fun hHeld => ?_)
  · (try dsimp only); exact two_conv OU2.out OS.out (by repeat (first | exact Below.refl _ _ | assumption | refine Below.alloc ?_ (by first | exact Nat.le_refl _ | (simp; done) | (simp; omega) | omega) _ | refine Below.drew ?_ | refine Below.setCell ?_ (by first | exact Nat.le_refl _ | (simp; done) | (simp; omega) | omega) _ | refine below_call ?_ (by assumption) (by first | exact Nat.le_refl _ | (simp; done) | (simp; omega) | omega)))
  clear hK K
  try simp only [Act.put, List.setIfInBounds_toArray, List.set_cons_zero, List.set_cons_succ]
  refine wpAnyH_take (i := 29) (oi := { dst := some 46, op := Go.Op.binOp Go.BinOp.eql 3 (Go.Operand.tmp 40) (Go.Operand.tmp 45) 3, type := 4, pos := "law.go:26", after := #[{ on := 23, ground := Go.Ground.data }, { on := 28, ground := Go.Ground.data }, { on := 21, ground := Go.Ground.guard }], guard := some (21, true) }) (v := ?_) rfl (by kernel_rfl) (by kernel_rfl) (by kernel_rfl) (fun _ _ _ h => h) (Or.inl ⟨by rfl, ?hy29⟩) (by assumption) ?rest29
  case hy29 => (intro w hSw; (try dsimp only at hSw); go_simp; try with_reducible rfl)
  simp only [Act.put, List.setIfInBounds_toArray, List.set_cons_zero, List.set_cons_succ]
  refine wpAnyH_take (i := 30) (oi := { dst := some 47, op := Go.Op.pick (Go.Operand.tmp 38) (Go.Operand.tmp 46) (Go.Operand.const (Go.Value.bool false)), type := 4, pos := "law.go:26", after := #[{ on := 21, ground := Go.Ground.data }, { on := 29, ground := Go.Ground.data }], guard := none }) (v := ?_) rfl (by kernel_rfl) (by kernel_rfl) (by kernel_rfl) (fun _ _ _ h => h) (Or.inl ⟨by rfl, ?hy30⟩) (by assumption) ?rest30
  case hy30 => (intro w hSw; (try dsimp only at hSw); go_simp; try with_reducible rfl)
  simp only [Act.put, List.setIfInBounds_toArray, List.set_cons_zero, List.set_cons_succ]
  refine wpAnyH_take (i := 31) (oi := { dst := some 48, op := Go.Op.move (Go.Operand.tmp 47), type := 4, pos := "law.go:26", after := #[{ on := 30, ground := Go.Ground.data }, { on := 23, ground := Go.Ground.chain }], guard := none }) (v := ?_) rfl (by kernel_rfl) (by kernel_rfl) (by kernel_rfl) (fun _ _ _ h => h) (Or.inl ⟨by rfl, ?hy31⟩) (by assumption) ?rest31
  case hy31 => (intro w hSw; (try dsimp only at hSw); go_simp; try with_reducible rfl)
  simp only [Act.put, List.setIfInBounds_toArray, List.set_cons_zero, List.set_cons_succ]
  refine wpAnyH_take (i := 32) (oi := { dst := some 49, op := Go.Op.move (Go.Operand.tmp 1), type := 23, pos := "law.go:26", after := #[{ on := 31, ground := Go.Ground.guard }], guard := some (31, true) }) (v := ?_) rfl (by kernel_rfl) (by kernel_rfl) (by kernel_rfl) (fun _ _ _ h => h) (Or.inl ⟨by rfl, ?hy32⟩) (by assumption) ?rest32
  case hy32 => (intro w hSw; (try dsimp only at hSw); go_simp; try with_reducible rfl)
  simp only [Act.put, List.setIfInBounds_toArray, List.set_cons_zero, List.set_cons_succ]
  refine wpAnyH_take (i := 33) (oi := { dst := some 50, op := Go.Op.convert 23 2 (Go.Operand.tmp 49), type := 2, pos := "law.go:26", after := #[{ on := 32, ground := Go.Ground.data }, { on := 31, ground := Go.Ground.guard }], guard := some (31, true) }) (v := ?_) rfl (by kernel_rfl) (by kernel_rfl) (by kernel_rfl) (fun _ _ _ h => h) (Or.inl ⟨by rfl, ?hy33⟩) (by assumption) ?rest33
  case hy33 => (intro w hSw; (try dsimp only at hSw); go_simp; try with_reducible rfl)
  simp only [Act.put, List.setIfInBounds_toArray, List.set_cons_zero, List.set_cons_succ]
  refine wpAnyH_take (i := 35) (oi := { dst := some 52, op := Go.Op.move (Go.Operand.tmp 6), type := 22, pos := "law.go:26", after := #[{ on := 31, ground := Go.Ground.guard }], guard := some (31, true) }) (v := ?_) rfl (by kernel_rfl) (by kernel_rfl) (by kernel_rfl) (fun _ _ _ h => h) (Or.inl ⟨by rfl, ?hy35⟩) (by assumption) ?rest35
  case hy35 => (intro w hSw; (try dsimp only at hSw); go_simp; try with_reducible rfl)
  simp only [Act.put, List.setIfInBounds_toArray, List.set_cons_zero, List.set_cons_succ]
  refine wpAnyH_take (i := 36) (oi := { dst := some 53, op := Go.Op.call { callee := Go.Callee.builtin Go.Builtin.len, args := #[Go.Operand.tmp 52], argTypes := #[22] }, type := 3, pos := "law.go:26", after := #[{ on := 35, ground := Go.Ground.data }, { on := 31, ground := Go.Ground.guard }], guard := some (31, true) }) (v := ?_) rfl (by kernel_rfl) (by kernel_rfl) (by kernel_rfl) (fun _ _ _ h => h) (Or.inl ⟨by rfl, ?hy36⟩) (by assumption) ?rest36
  case hy36 => (intro w hSw; (try dsimp only at hSw); go_simp; try with_reducible rfl)
  simp only [Act.put, List.setIfInBounds_toArray, List.set_cons_zero, List.set_cons_succ]
  refine wpAnyH_take (i := 37) (oi := { dst := some 54, op := Go.Op.move (Go.Operand.tmp 0), type := 22, pos := "law.go:26", after := #[{ on := 31, ground := Go.Ground.guard }], guard := some (31, true) }) (v := ?_) rfl (by kernel_rfl) (by kernel_rfl) (by kernel_rfl) (fun _ _ _ h => h) (Or.inl ⟨by rfl, ?hy37⟩) (by assumption) ?rest37
  case hy37 => (intro w hSw; (try dsimp only at hSw); go_simp; try with_reducible rfl)
  simp only [Act.put, List.setIfInBounds_toArray, List.set_cons_zero, List.set_cons_succ]
  refine wpAnyH_take (i := 38) (oi := { dst := some 55, op := Go.Op.call { callee := Go.Callee.builtin Go.Builtin.len, args := #[Go.Operand.tmp 54], argTypes := #[22] }, type := 3, pos := "law.go:26", after := #[{ on := 37, ground := Go.Ground.data }, { on := 31, ground := Go.Ground.guard }], guard := some (31, true) }) (v := ?_) rfl (by kernel_rfl) (by kernel_rfl) (by kernel_rfl) (fun _ _ _ h => h) (Or.inl ⟨by rfl, ?hy38⟩) (by assumption) ?rest38
  case hy38 => (intro w hSw; (try dsimp only at hSw); go_simp; try with_reducible rfl)
  simp only [Act.put, List.setIfInBounds_toArray, List.set_cons_zero, List.set_cons_succ]
  refine wpAnyH_take (i := 39) (oi := { dst := some 56, op := Go.Op.binOp Go.BinOp.sub 3 (Go.Operand.tmp 53) (Go.Operand.tmp 55) 3, type := 3, pos := "law.go:26", after := #[{ on := 36, ground := Go.Ground.data }, { on := 38, ground := Go.Ground.data }, { on := 31, ground := Go.Ground.guard }], guard := some (31, true) }) (v := ?_) rfl (by kernel_rfl) (by kernel_rfl) (by kernel_rfl) (fun _ _ _ h => h) (Or.inl ⟨by rfl, ?hy39⟩) (by assumption) ?rest39
  case hy39 => (intro w hSw; (try dsimp only at hSw); go_simp; try with_reducible rfl)
  simp only [Act.put, List.setIfInBounds_toArray, List.set_cons_zero, List.set_cons_succ]
  refine wpAnyH_ready (rs := [34]) (by kernel_rfl) (by simp) ?_
  refine AllReadyH.cons (o := { dst := some 51, op := Go.Op.call { callee := Go.Callee.value (Go.Operand.func 14), args := #[Go.Operand.tmp 50], argTypes := #[2] }, type := 3, pos := "law.go:26", after := #[{ on := 33, ground := Go.Ground.data }, { on := 31, ground := Go.Ground.chain }, { on := 31, ground := Go.Ground.guard }], guard := some (31, true) }) rfl (fun K hK => ?_) AllReadyH.nil
  go_simp
  go_at_call 14; (with_reducible refine (lebSizeS _ (wrap64 v) x0 x1).mono ?_); rintro e w' ⟨rfl, hb1⟩; have hb8 := below_call hb7 hb1 hz7; have hz8 := Nat.le_trans hz7 hb1.size
  refine hK.out _ _ ?_ (fun hHeld => ?_)
  · (try dsimp only); exact two_conv OU2.out OS.out (by repeat (first | exact Below.refl _ _ | assumption | refine Below.alloc ?_ (by first | exact Nat.le_refl _ | (simp; done) | (simp; omega) | omega) _ | refine Below.drew ?_ | refine Below.setCell ?_ (by first | exact Nat.le_refl _ | (simp; done) | (simp; omega) | omega) _ | refine below_call ?_ (by assumption) (by first | exact Nat.le_refl _ | (simp; done) | (simp; omega) | omega)))
  clear hK K
  try simp only [Act.put, List.setIfInBounds_toArray, List.set_cons_zero, List.set_cons_succ]
  refine wpAnyH_take (i := 40) (oi := { dst := some 57, op := Go.Op.binOp Go.BinOp.eql 3 (Go.Operand.tmp 51) (Go.Operand.tmp 56) 3, type := 4, pos := "law.go:26", after := #[{ on := 34, ground := Go.Ground.data }, { on := 39, ground := Go.Ground.data }, { on := 31, ground := Go.Ground.guard }], guard := some (31, true) }) (v := ?_) rfl (by kernel_rfl) (by kernel_rfl) (by kernel_rfl) (fun _ _ _ h => h) (Or.inl ⟨by rfl, ?hy40⟩) (by assumption) ?rest40
  case hy40 => (intro w hSw; (try dsimp only at hSw); go_simp; try with_reducible rfl)
  simp only [Act.put, List.setIfInBounds_toArray, List.set_cons_zero, List.set_cons_succ]
  refine wpAnyH_take (i := 41) (oi := { dst := some 58, op := Go.Op.pick (Go.Operand.tmp 48) (Go.Operand.tmp 57) (Go.Operand.const (Go.Value.bool false)), type := 4, pos := "law.go:26", after := #[{ on := 31, ground := Go.Ground.data }, { on := 40, ground := Go.Ground.data }], guard := none }) (v := ?_) rfl (by kernel_rfl) (by kernel_rfl) (by kernel_rfl) (fun _ _ _ h => h) (Or.inl ⟨by rfl, ?hy41⟩) (by assumption) ?rest41
  case hy41 => (intro w hSw; (try dsimp only at hSw); go_simp; try with_reducible rfl)
  simp only [Act.put, List.setIfInBounds_toArray, List.set_cons_zero, List.set_cons_succ]
  refine wpAnyH_take (i := 42) (oi := { dst := some 59, op := Go.Op.move (Go.Operand.tmp 58), type := 4, pos := "law.go:26", after := #[{ on := 41, ground := Go.Ground.data }, { on := 34, ground := Go.Ground.chain }], guard := none }) (v := ?_) rfl (by kernel_rfl) (by kernel_rfl) (by kernel_rfl) (fun _ _ _ h => h) (Or.inl ⟨by rfl, ?hy42⟩) (by assumption) ?rest42
  case hy42 => (intro w hSw; (try dsimp only at hSw); go_simp; try with_reducible rfl)
  simp only [Act.put, List.setIfInBounds_toArray, List.set_cons_zero, List.set_cons_succ]
  refine wpAnyH_ready (rs := [43]) (by kernel_rfl) (by simp) ?_
  refine AllReadyH.cons (o := { dst := some 60, op := Go.Op.call { callee := Go.Callee.value (Go.Operand.func 15), args := #[], argTypes := #[] }, type := 4, pos := "law.go:26", after := #[{ on := 42, ground := Go.Ground.chain }, { on := 42, ground := Go.Ground.guard }], guard := some (42, true) }) rfl (fun K hK => ?_) AllReadyH.nil
  go_simp
  go_at_call 15; (with_reducible refine (awake_any _).mono ?_); rintro e w' ⟨rfl, hb1⟩; have hb9 := below_call hb8 hb1 hz8; have hz9 := Nat.le_trans hz8 hb1.size
  refine hK.out _ _ ?_ (fun hHeld => ?_)
  · (try dsimp only); exact two_conv OU2.out OS.out (by repeat (first | exact Below.refl _ _ | assumption | refine Below.alloc ?_ (by first | exact Nat.le_refl _ | (simp; done) | (simp; omega) | omega) _ | refine Below.drew ?_ | refine Below.setCell ?_ (by first | exact Nat.le_refl _ | (simp; done) | (simp; omega) | omega) _ | refine below_call ?_ (by assumption) (by first | exact Nat.le_refl _ | (simp; done) | (simp; omega) | omega)))
  clear hK K
  try simp only [Act.put, List.setIfInBounds_toArray, List.set_cons_zero, List.set_cons_succ]
  refine wpAnyH_take (i := 44) (oi := { dst := some 61, op := Go.Op.pick (Go.Operand.tmp 59) (Go.Operand.tmp 60) (Go.Operand.const (Go.Value.bool false)), type := 4, pos := "law.go:26", after := #[{ on := 42, ground := Go.Ground.data }, { on := 43, ground := Go.Ground.data }], guard := none }) (v := ?_) rfl (by kernel_rfl) (by kernel_rfl) (by kernel_rfl) (fun _ _ _ h => h) (Or.inl ⟨by rfl, ?hy44⟩) (by assumption) ?rest44
  case hy44 => (intro w hSw; (try dsimp only at hSw); go_simp; try with_reducible rfl)
  simp only [Act.put, List.setIfInBounds_toArray, List.set_cons_zero, List.set_cons_succ]
  refine wpAnyH_take (i := 45) (oi := { dst := some 4, op := Go.Op.assign (Go.Operand.tmp 61), type := 4, pos := "law.go:26", after := #[{ on := 44, ground := Go.Ground.data }, { on := 43, ground := Go.Ground.chain }, { on := 0, ground := Go.Ground.phase }, { on := 1, ground := Go.Ground.phase }, { on := 2, ground := Go.Ground.phase }, { on := 3, ground := Go.Ground.phase }, { on := 4, ground := Go.Ground.phase }, { on := 5, ground := Go.Ground.phase }, { on := 6, ground := Go.Ground.phase }, { on := 7, ground := Go.Ground.phase }, { on := 8, ground := Go.Ground.phase }, { on := 9, ground := Go.Ground.phase }, { on := 10, ground := Go.Ground.phase }, { on := 11, ground := Go.Ground.phase }, { on := 12, ground := Go.Ground.phase }, { on := 13, ground := Go.Ground.phase }, { on := 14, ground := Go.Ground.phase }, { on := 15, ground := Go.Ground.phase }, { on := 16, ground := Go.Ground.phase }, { on := 17, ground := Go.Ground.phase }, { on := 18, ground := Go.Ground.phase }, { on := 19, ground := Go.Ground.phase }, { on := 20, ground := Go.Ground.phase }, { on := 21, ground := Go.Ground.phase }, { on := 22, ground := Go.Ground.phase }, { on := 23, ground := Go.Ground.phase }, { on := 24, ground := Go.Ground.phase }, { on := 25, ground := Go.Ground.phase }, { on := 26, ground := Go.Ground.phase }, { on := 27, ground := Go.Ground.phase }, { on := 28, ground := Go.Ground.phase }, { on := 29, ground := Go.Ground.phase }, { on := 30, ground := Go.Ground.phase }, { on := 31, ground := Go.Ground.phase }, { on := 32, ground := Go.Ground.phase }, { on := 33, ground := Go.Ground.phase }, { on := 34, ground := Go.Ground.phase }, { on := 35, ground := Go.Ground.phase }, { on := 36, ground := Go.Ground.phase }, { on := 37, ground := Go.Ground.phase }, { on := 38, ground := Go.Ground.phase }, { on := 39, ground := Go.Ground.phase }, { on := 40, ground := Go.Ground.phase }, { on := 41, ground := Go.Ground.phase }, { on := 42, ground := Go.Ground.phase }, { on := 43, ground := Go.Ground.phase }, { on := 44, ground := Go.Ground.phase }], guard := none }) (v := ?_) rfl (by kernel_rfl) (by kernel_rfl) (by kernel_rfl) (fun _ _ _ h => h) (Or.inl ⟨by rfl, ?hy45⟩) (by assumption) ?rest45
  case hy45 => (intro w hSw; (try dsimp only at hSw); go_simp; try with_reducible rfl)
  simp only [Act.put, List.setIfInBounds_toArray, List.set_cons_zero, List.set_cons_succ]
  refine wpAnyH_done (by kernel_rfl) ?_ _
  refine NoPanic.normal ?_
  go_wp2
  go_ret
  exact ⟨rfl, K2.out.trans (hb9.mono zz2)⟩

theorem puts_walk (A : Option Addr) (c : Nat) (l : List Int) (v : Int) (w : World) (h : Came w w.heap.size A c l) (hlen : (l.length : Int) ≤ 9223372036854775807) (h0 : 0 ≤ v) (h1 : v ≤ 18446744073709551615) :
    Calls Try.prog 3 #[.slice A l.length c, .int .u64 v] w (fun e w' => e = .returned (.bool true) ∧ Below w.heap.size w w') := by
  by_cases h60 : l.length ≤ 60
  · exact puts_yes A c l v w h h60 h0 h1
  · go_enter Try.func3, Try.ntmps3
    go_wp2
    go_ret
    exact ⟨rfl, (by repeat (first | exact Below.refl _ _ | assumption | refine Below.alloc ?_ (by first | exact Nat.le_refl _ | (simp; done) | (simp; omega) | omega) _ | refine Below.drew ?_ | refine Below.setCell ?_ (by first | exact Nat.le_refl _ | (simp; done) | (simp; omega) | omega) _ | refine below_call ?_ (by assumption) (by first | exact Nat.le_refl _ | (simp; done) | (simp; omega) | omega)))⟩

end Go.Proofs.Ytlpocahflolmpaa
