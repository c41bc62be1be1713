/- dobbylaw04.want's closure, kind 3: one of some. -/
import Derived.Test.YtiohiiekaofkbaaDoorD6
import Derived.Laws.OwnMore
import Derived.Deep.AppendLies
namespace Go.Proofs.YtiohiiekaofkbaaDoor
set_option linter.unusedVariables false
set_option linter.unusedSimpArgs false
open Go.RowKit Go.Proofs.YtiohiiekaofkbaaDoor.PCursorPlaces Go.Proofs.YtiohiiekaofkbaaDoorW.PrintWords

theorem infoR : (Tryd.prog.info? 174).map (fun i => (i.zero, i.size, i.bytes)) = some (some (.agg #[.int .u64 0, .int .u64 0]), 2, 16) := by kernel_rfl
theorem info_of {P : Program} {t : TypeId} {z : Value} {s b : Nat} (h : (P.info? t).map (fun i => (i.zero, i.size, i.bytes)) = some (some z, s, b)) : ∃ i, P.info? t = some i ∧ i.zero = some z ∧ i.size = s ∧ i.bytes = b := by
  rcases hi : P.info? t with _ | i
  · rw [hi] at h; cases h
  · rw [hi] at h
    simp only [Option.map_some, Option.some.injEq, Prod.mk.injEq] at h
    exact ⟨i, rfl, h.1, h.2.1, h.2.2⟩
def rv (l : List (Int × Int)) : List Value := l.flatMap (fun x => [.int .u64 x.1, .int .u64 x.2])
theorem rv_app (l : List (Int × Int)) (x : Int × Int) : rv (l ++ [x]) = rv l ++ [.int .u64 x.1, .int .u64 x.2] := by simp [rv]
theorem rv_get : ∀ (l : List (Int × Int)) (i : Nat) (h : i < l.length), (rv l)[i * 2]? = some (.int .u64 l[i].1) ∧ (rv l)[i * 2 + 1]? = some (.int .u64 l[i].2) := by
  intro l
  induction l with
  | nil => intro i h; simp at h
  | cons x l ih =>
    intro i h
    have e : rv (x :: l) = .int .u64 x.1 :: .int .u64 x.2 :: rv l := by simp [rv]
    rw [e]
    rcases i with _ | i
    · exact ⟨rfl, rfl⟩
    · have := ih i (by simpa using h)
      have e1 : (i + 1) * 2 = i * 2 + 1 + 1 := by omega
      rw [e1]
      simpa using this
/-- an own row of ranges -/
def OwnRg (w : World) (base : Nat) (v : Value) (l : List (Int × Int)) : Prop := w.ownsRow base 174 2 v l.length (rv l)
theorem own_keep {w w' : World} {base : Nat} {e : TypeId} {size n : Nat} {v : Value} {xs : List Value} (h : w.ownsRow base e size v n xs) (hb : Below w.heap.size w w') : w'.ownsRow base e size v n xs :=
  World.ownsRow.kept h (grown_of_below hb none) (by rcases v.ownBlock with _ | k; exact .inl rfl; exact .inr (by simp))
theorem OwnRg.row {w : World} {base : Nat} {v : Value} {l : List (Int × Int)} (h : OwnRg w base v l) (hb : ∀ x ∈ l, 0 ≤ x.1 ∧ x.1 ≤ 18446744073709551615 ∧ 0 ≤ x.2 ∧ x.2 ≤ 18446744073709551615) : ∃ A c, v = .slice A l.length c ∧ RowR w A l := by
  rcases Nat.eq_zero_or_pos l.length with hz | hp
  · have hl : l = [] := List.eq_nil_of_length_eq_zero hz
    subst hl
    rcases h.2 with ⟨e, _⟩ | ⟨g, c, cur, e, _⟩
    · exact ⟨none, 0, e, .inl rfl⟩
    · exact ⟨_, c, e, .inl rfl⟩
  · obtain ⟨g, c, e, hg, hlt⟩ := World.ownsRow.form h hp
    subst e
    refine ⟨_, c, rfl, .inr ⟨g, rfl, hlt, fun i hi => ?_⟩⟩
    obtain ⟨r0, r1⟩ := rv_get l i hi
    have hx := hb l[i] (List.getElem_mem hi)
    exact ⟨(World.ownsRow.cellAt h (i * 2) (by omega)).trans r0, (World.ownsRow.cellAt h (i * 2 + 1) (by omega)).trans r1, hx⟩
theorem rgP_step (l : List S157) (i : Nat) (h : i < l.length) (r : Int) : rgP (l.take (i + 1)) r = rgP (l.take i) r ++ (if chB (rd_T157 l i).f1.f0 (rd_T157 l i).f1.f1 r = true then [((rd_T157 l i).f0, (rd_T157 l i).f0)] else []) := by
  have e : rd_T157 l (i : Int) = l[i] := by simp [rd_T157, List.getD_eq_getElem?_getD, List.getElem?_eq_getElem h]
  rw [e, List.take_add_one, List.getElem?_eq_getElem h, rgP, rgP, List.filter_append, List.map_append]
  congr 1
  simp only [Option.toList_some, List.filter_cons, List.filter_nil]
  split <;> simp
theorem keep2 {p1 p2 : Addr} {a b : Value} {w W W' : World} {B : Nat} (h : W.cell? p1 = some a ∧ W.cell? p2 = some b ∧ Below B w W ∧ B ≤ W.heap.size)
    (hb : Below W.heap.size W W') : W'.cell? p1 = some a ∧ W'.cell? p2 = some b ∧ Below B w W' ∧ B ≤ W'.heap.size := by
  obtain ⟨h1, h2, h5, h6⟩ := h
  exact ⟨pw_cell_below hb h1, pw_cell_below hb h2, h5.trans (hb.mono h6), Nat.le_trans h6 hb.size⟩
theorem OwnRg.step {w' : World} {base : Nat} {l : List (Int × Int)} {x : Int × Int} {g cap : Nat} (h : w'.ownsRow base 174 2 (.slice (some ⟨g, 0, none⟩) (l.length + 1) cap) (l.length + 1) (rv l ++ [.int .u64 x.1, .int .u64 x.2])) : OwnRg w' base (.slice (some ⟨g, 0, none⟩) (l.length + 1) cap) (l ++ [x]) := by
  unfold OwnRg; rw [rv_app, List.length_append]; exact h
set_option maxRecDepth 100000 in
set_option maxHeartbeats 4000000 in
theorem want1_3 (B : Nat) (x : S152) (A : Option Addr) (c : Nat) (r : Int) (W : World) (h : BoxQ B x A c W) (hC : Kd.C k157 W A x.f6.length x.f6) (hf : FineQ x) (hk : x.f0 ≠ 0 ∧ x.f0 ≠ 1 ∧ x.f0 ≠ 2) (hr : 0 ≤ r) (hr2 : r ≤ 1099511627776) :
    Calls Tryd.prog 147 #[.int .i64 r, .pointer (some ⟨B, 0, none⟩)] W (PW W (rgQ x r)) := by
  have k := h.k
  have pk := h.pk
  have HC := hid hC
  have HF := hid hf
  have hlen := hf.len
  obtain ⟨i0, hi0, hz0, hz1, hz2⟩ := info_of infoR
  obtain ⟨n0, n1, n2⟩ := hk
  have e : rgQ x r = rgP x.f6 r := by rw [rgQ, if_neg n0, if_neg n1, if_neg n2]
  rw [e]
  have m0 : (x.f0 == 0) = false := by simpa using n0
  have m1 : (x.f0 == 1) = false := by simpa using n1
  have m2 : (x.f0 == 2) = false := by simpa using n2
  clear e hf h hC n0 n1 n2
  go_enter Tryd.func147, Tryd.ntmps147
  go_wp2
  go_loopw [4, 5] (fun v4 v5 wr => ∃ i : Nat, v5 = .int .i64 i ∧ i ≤ x.f6.length ∧ Hid (OwnRg wr W.heap.size v4 (rgP (x.f6.take i) r)) ∧ Hid (Below W.heap.size W wr)) (fun _ v5 _ => x.f6.length - (intOf v5).toNat)
  case atStart => exact ⟨0, by go_num, by omega, hid (World.ownsRow_nil _ _ _ _), hid (Below.refl _ _)⟩
  case round =>
    obtain ⟨i, rfl, hi, HO, HB⟩ := hrel
    have pk1 := still HB.out pk
    by_cases hlt : i < x.f6.length
    · obtain ⟨ad, rfl, e0, e1, e2⟩ := at_T157 HC.out (i : Int) (by omega) (by omega)
      rw [Int.toNat_natCast] at e0 e1 e2
      have S0 : W.cell? ⟨B, 9, none⟩ = some (.slice (some ad) x.f6.length c) ∧ W.cell? (ad.add (i * 3)) = some (.int .u64 (rd_T157 x.f6 i).f0) ∧ Below W.heap.size W W ∧ W.heap.size ≤ W.heap.size := ⟨pk, e0, Below.refl _ _, Nat.le_refl _⟩
      have e1 := still HB.out e1
      have e2 := still HB.out e2
      clear e0
      have hi3 : (i : Int) < (x.f6.length : Int) := by omega
      have HH := hid (fun W => r4has_any (rd_T157 x.f6 i).f1.f0 (rd_T157 x.f6 i).f1.f1 r W hr)
      have HS := hid (rgP_step x.f6 i hlt r)
      have hln : (rgP (x.f6.take i) r).length ≤ 20 := by
        have h1 : (rgP (x.f6.take i) r).length ≤ (x.f6.take i).length := by rw [rgP, List.length_map]; exact List.length_filter_le _ _
        rw [List.length_take] at h1; omega
      generalize rgP (x.f6.take i) r = L at HS HO hln
      rcases hc : chB (rd_T157 x.f6 i).f1.f0 (rd_T157 x.f6 i).f1.f1 r with _ | _
      · rw [hc] at HH HS
        clear hc S0 pk
        go_wp2_with (first | (go_at_call 148; refine (HH.out _).mono ?_; rintro e w1 ⟨rfl, hb1⟩))
        go_roundw
        case rel => exact ⟨i + 1, by go_num, by omega, hid (by rw [HS.out, if_neg (by simp), List.append_nil]; exact own_keep HO.out hb1), hid (HB.out.trans (hb1.mono HB.out.size))⟩
        case measure => simp [intOf]; omega
      · rw [hc] at HH HS
        clear hc pk
        go_upto_region 15 with (first | (go_at_call 148; refine (HH.out _).mono ?_; rintro e w1 ⟨rfl, hb1⟩))
        have HB1 := hid (HB.out.trans (hb1.mono HB.out.size))
        have hz1' : W.heap.size ≤ w1.heap.size := HB1.out.size
        have HO1 := hid (own_keep HO.out hb1)
        clear pk1 e1 e2 hb1
        refine wp_region_noPanic ?_
        refine wp_region_held_drew (S := (fun w => w.cell? ⟨B, 9, none⟩ = some (.slice (some ad) x.f6.length c) ∧ w.cell? (ad.add (i * 3)) = some (.int .u64 (rd_T157 x.f6 i).f0) ∧ Below W.heap.size W w ∧ W.heap.size ≤ w.heap.size)) (by kernel_rfl) ?hSa (fun hHeld => ?goa)
        case hSa => first | exact keep2 S0 (Below.drew HB1.out) | exact keep2 S0 (Below.alloc (Below.drew HB1.out) hz1' _) | exact keep2 S0 hba
        refine wpAnyH_take (i := 0) (oi := { dst := some 57, op := Go.Op.move (Go.Operand.tmp 4), type := 172, pos := "law.go:57", after := #[], guard := none }) (v := ?_) rfl (by kernel_rfl) (by kernel_rfl) (by kernel_rfl) (fun _ _ _ h => h) (Or.inl ⟨by rfl, ?hy0a⟩) (by assumption) ?rest0a
        case hy0a => (intro w hSw; (try dsimp only at hSw); go_simp; first | (with_reducible rfl) | (rw [if_neg (by omega)]) | skip)
        simp only [Act.put, List.setIfInBounds_toArray, List.set_cons_zero, List.set_cons_succ]
        refine wpAnyH_take (i := 1) (oi := { dst := some 58, op := Go.Op.fieldAddr 152 (Go.Operand.tmp 1) 6, type := 0, pos := "law.go:57", after := #[], guard := none }) (v := ?_) rfl (by kernel_rfl) (by kernel_rfl) (by kernel_rfl) (fun _ _ _ h => h) (Or.inl ⟨by rfl, ?hy1a⟩) (by assumption) ?rest1a
        case hy1a => (intro w hSw; (try dsimp only at hSw); go_simp; first | (with_reducible rfl) | (rw [if_neg (by omega)]) | skip)
        simp only [Act.put, List.setIfInBounds_toArray, List.set_cons_zero, List.set_cons_succ]
        refine wpAnyH_take (i := 2) (oi := { dst := some 59, op := Go.Op.load 150 (Go.Operand.tmp 58), type := 150, pos := "law.go:57", after := #[{ on := 1, ground := Go.Ground.data }], guard := none }) (v := ?_) rfl (by kernel_rfl) (by kernel_rfl) (by kernel_rfl) (fun _ _ _ h => h) (Or.inl ⟨by rfl, ?hy2a⟩) (by assumption) ?rest2a
        case hy2a => (intro w hSw; (try dsimp only at hSw); go_simp; first | (with_reducible rfl) | (rw [if_neg (by omega)]) | skip)
        simp only [Act.put, List.setIfInBounds_toArray, List.set_cons_zero, List.set_cons_succ]
        refine wpAnyH_take (i := 3) (oi := { dst := some 60, op := Go.Op.move (Go.Operand.tmp 5), type := 3, pos := "law.go:57", after := #[], guard := none }) (v := ?_) rfl (by kernel_rfl) (by kernel_rfl) (by kernel_rfl) (fun _ _ _ h => h) (Or.inl ⟨by rfl, ?hy3a⟩) (by assumption) ?rest3a
        case hy3a => (intro w hSw; (try dsimp only at hSw); go_simp; first | (with_reducible rfl) | (rw [if_neg (by omega)]) | skip)
        simp only [Act.put, List.setIfInBounds_toArray, List.set_cons_zero, List.set_cons_succ]
        refine wpAnyH_take (i := 4) (oi := { dst := some 61, op := Go.Op.indexAddr 150 (Go.Operand.tmp 59) (Go.Operand.tmp 60), type := 0, pos := "law.go:57", after := #[{ on := 2, ground := Go.Ground.data }, { on := 3, ground := Go.Ground.data }], guard := none }) (v := ?_) rfl (by kernel_rfl) (by kernel_rfl) (by kernel_rfl) (fun _ _ _ h => h) (Or.inl ⟨by rfl, ?hy4a⟩) (by assumption) ?rest4a
        case hy4a => (intro w hSw; (try dsimp only at hSw); go_simp; first | (with_reducible rfl) | (rw [if_neg (by omega)]) | skip)
        simp only [Act.put, List.setIfInBounds_toArray, List.set_cons_zero, List.set_cons_succ]
        refine wpAnyH_take (i := 5) (oi := { dst := some 62, op := Go.Op.fieldAddr 157 (Go.Operand.tmp 61) 0, type := 0, pos := "law.go:57", after := #[{ on := 4, ground := Go.Ground.data }], guard := none }) (v := ?_) rfl (by kernel_rfl) (by kernel_rfl) (by kernel_rfl) (fun _ _ _ h => h) (Or.inl ⟨by rfl, ?hy5a⟩) (by assumption) ?rest5a
        case hy5a => (intro w hSw; (try dsimp only at hSw); go_simp; first | (with_reducible rfl) | (rw [if_neg (by omega)]) | skip)
        simp only [Act.put, List.setIfInBounds_toArray, List.set_cons_zero, List.set_cons_succ]
        refine wpAnyH_take (i := 6) (oi := { dst := some 63, op := Go.Op.load 111 (Go.Operand.tmp 62), type := 111, pos := "law.go:57", after := #[{ on := 5, ground := Go.Ground.data }], guard := none }) (v := ?_) rfl (by kernel_rfl) (by kernel_rfl) (by kernel_rfl) (fun _ _ _ h => h) (Or.inl ⟨by rfl, ?hy6a⟩) (by assumption) ?rest6a
        case hy6a => (intro w hSw; (try dsimp only at hSw); go_simp; first | (with_reducible rfl) | (rw [if_neg (by omega)]) | skip)
        simp only [Act.put, List.setIfInBounds_toArray, List.set_cons_zero, List.set_cons_succ]
        refine wpAnyH_take (i := 7) (oi := { dst := some 64, op := Go.Op.fieldAddr 152 (Go.Operand.tmp 1) 6, type := 0, pos := "law.go:57", after := #[], guard := none }) (v := ?_) rfl (by kernel_rfl) (by kernel_rfl) (by kernel_rfl) (fun _ _ _ h => h) (Or.inl ⟨by rfl, ?hy7a⟩) (by assumption) ?rest7a
        case hy7a => (intro w hSw; (try dsimp only at hSw); go_simp; first | (with_reducible rfl) | (rw [if_neg (by omega)]) | skip)
        simp only [Act.put, List.setIfInBounds_toArray, List.set_cons_zero, List.set_cons_succ]
        refine wpAnyH_take (i := 8) (oi := { dst := some 65, op := Go.Op.load 150 (Go.Operand.tmp 64), type := 150, pos := "law.go:57", after := #[{ on := 7, ground := Go.Ground.data }], guard := none }) (v := ?_) rfl (by kernel_rfl) (by kernel_rfl) (by kernel_rfl) (fun _ _ _ h => h) (Or.inl ⟨by rfl, ?hy8a⟩) (by assumption) ?rest8a
        case hy8a => (intro w hSw; (try dsimp only at hSw); go_simp; first | (with_reducible rfl) | (rw [if_neg (by omega)]) | skip)
        simp only [Act.put, List.setIfInBounds_toArray, List.set_cons_zero, List.set_cons_succ]
        refine wpAnyH_take (i := 9) (oi := { dst := some 66, op := Go.Op.move (Go.Operand.tmp 5), type := 3, pos := "law.go:57", after := #[], guard := none }) (v := ?_) rfl (by kernel_rfl) (by kernel_rfl) (by kernel_rfl) (fun _ _ _ h => h) (Or.inl ⟨by rfl, ?hy9a⟩) (by assumption) ?rest9a
        case hy9a => (intro w hSw; (try dsimp only at hSw); go_simp; first | (with_reducible rfl) | (rw [if_neg (by omega)]) | skip)
        simp only [Act.put, List.setIfInBounds_toArray, List.set_cons_zero, List.set_cons_succ]
        refine wpAnyH_take (i := 10) (oi := { dst := some 67, op := Go.Op.indexAddr 150 (Go.Operand.tmp 65) (Go.Operand.tmp 66), type := 0, pos := "law.go:57", after := #[{ on := 8, ground := Go.Ground.data }, { on := 9, ground := Go.Ground.data }], guard := none }) (v := ?_) rfl (by kernel_rfl) (by kernel_rfl) (by kernel_rfl) (fun _ _ _ h => h) (Or.inl ⟨by rfl, ?hy10a⟩) (by assumption) ?rest10a
        case hy10a => (intro w hSw; (try dsimp only at hSw); go_simp; first | (with_reducible rfl) | (rw [if_neg (by omega)]) | skip)
        simp only [Act.put, List.setIfInBounds_toArray, List.set_cons_zero, List.set_cons_succ]
        refine wpAnyH_take (i := 11) (oi := { dst := some 68, op := Go.Op.fieldAddr 157 (Go.Operand.tmp 67) 0, type := 0, pos := "law.go:57", after := #[{ on := 10, ground := Go.Ground.data }], guard := none }) (v := ?_) rfl (by kernel_rfl) (by kernel_rfl) (by kernel_rfl) (fun _ _ _ h => h) (Or.inl ⟨by rfl, ?hy11a⟩) (by assumption) ?rest11a
        case hy11a => (intro w hSw; (try dsimp only at hSw); go_simp; first | (with_reducible rfl) | (rw [if_neg (by omega)]) | skip)
        simp only [Act.put, List.setIfInBounds_toArray, List.set_cons_zero, List.set_cons_succ]
        refine wpAnyH_take (i := 12) (oi := { dst := some 69, op := Go.Op.load 111 (Go.Operand.tmp 68), type := 111, pos := "law.go:57", after := #[{ on := 11, ground := Go.Ground.data }], guard := none }) (v := ?_) rfl (by kernel_rfl) (by kernel_rfl) (by kernel_rfl) (fun _ _ _ h => h) (Or.inl ⟨by rfl, ?hy12a⟩) (by assumption) ?rest12a
        case hy12a => (intro w hSw; (try dsimp only at hSw); go_simp; first | (with_reducible rfl) | (rw [if_neg (by omega)]) | skip)
        simp only [Act.put, List.setIfInBounds_toArray, List.set_cons_zero, List.set_cons_succ]
        refine wpAnyH_take (i := 13) (oi := { dst := some 70, op := Go.Op.build 174 #[(0, Go.Operand.tmp 63), (1, Go.Operand.tmp 69)], type := 174, pos := "law.go:57", after := #[{ on := 6, ground := Go.Ground.data }, { on := 12, ground := Go.Ground.data }], guard := none }) (v := ?_) rfl (by kernel_rfl) (by kernel_rfl) (by kernel_rfl) (fun _ _ _ h => h) (Or.inl ⟨by rfl, ?hy13a⟩) (by assumption) ?rest13a
        case hy13a => (intro w hSw; (try dsimp only at hSw); go_simp; first | (with_reducible rfl) | (rw [if_neg (by omega)]) | skip)
        simp only [Act.put, List.setIfInBounds_toArray, List.set_cons_zero, List.set_cons_succ]
        refine wpAnyH_ready (rs := [14]) (by kernel_rfl) (by simp) ?_
        refine AllReadyH.cons (o := { dst := some 71, op := Go.Op.buildSlice 172 1 #[(0, Go.Operand.tmp 70)], type := 172, pos := "law.go:57", after := #[{ on := 13, ground := Go.Ground.data }], guard := none }) rfl (fun K hK => ?_) AllReadyH.nil
        go_simp
        refine hK.out _ _ ?_ (fun hHeld => ?_)
        · (try dsimp only); first | exact keep2 S0 (Below.drew HB1.out) | exact keep2 S0 (Below.alloc (Below.drew HB1.out) hz1' _) | exact keep2 S0 hba
        clear hK K
        try simp only [Act.put, List.setIfInBounds_toArray, List.set_cons_zero, List.set_cons_succ]
        refine wpAnyH_ready (rs := [15]) (by kernel_rfl) (by simp) ?_
        refine AllReadyH.cons (o := { dst := some 72, op := Go.Op.call { callee := Go.Callee.builtin Go.Builtin.append, args := #[Go.Operand.tmp 57, Go.Operand.tmp 71], argTypes := #[172, 172] }, type := 172, pos := "law.go:57", after := #[{ on := 0, ground := Go.Ground.data }, { on := 14, ground := Go.Ground.data }], guard := none }) rfl (fun K hK => ?_) AllReadyH.nil
        refine step_append_lies _ rfl (.tmp 57) (.tmp 71) 172 (by rfl) W.heap.size 174 i0 (.agg #[.int .u64 0, .int .u64 0]) 2 16 Tryd.underlying172 hi0 hz0 hz1 hz2 rfl (by decide) _ L.length (rv L) (by rfl) (own_keep (own_keep HO1.out (below_drewN w1 1)) (Below.alloc (Below.refl _ _) (Nat.le_refl _) _)) ⟨w1.heap.size, 0, none⟩ 1 1 [.int .u64 (rd_T157 x.f6 i).f0, .int .u64 (rd_T157 x.f6 i).f0] (by rfl) rfl (by intro j u hj; rcases j with _ | _ | j <;> simp at hj <;> subst hj <;> go_simp) (by intro u hu; simp at hu; subst hu; rfl) (by decide) (by unfold maxLen; omega) (by omega) (by simp; omega) _ rfl ?_; intro ga capa wa howna hgrowa hata hlta; have hba : Below W.heap.size W wa := (Below.alloc (Below.drew HB1.out) hz1' _).grown hgrowa (by simp; omega) (fun k hk => (HO1.out.lt k hk).1)
        refine hK.out _ _ ?_ (fun hHeld => ?_)
        · (try dsimp only); first | exact keep2 S0 (Below.drew HB1.out) | exact keep2 S0 (Below.alloc (Below.drew HB1.out) hz1' _) | exact keep2 S0 hba
        clear hK K
        try simp only [Act.put, List.setIfInBounds_toArray, List.set_cons_zero, List.set_cons_succ]
        refine wpAnyH_take (i := 16) (oi := { dst := some 4, op := Go.Op.assign (Go.Operand.tmp 72), type := 172, pos := "law.go:57", after := #[{ on := 15, ground := Go.Ground.data }, { on := 15, ground := Go.Ground.chain }, { on := 0, ground := Go.Ground.phase }, { on := 1, ground := Go.Ground.phase }, { on := 2, ground := Go.Ground.phase }, { on := 3, ground := Go.Ground.phase }, { on := 4, ground := Go.Ground.phase }, { on := 5, ground := Go.Ground.phase }, { on := 6, ground := Go.Ground.phase }, { on := 7, ground := Go.Ground.phase }, { on := 8, ground := Go.Ground.phase }, { on := 9, ground := Go.Ground.phase }, { on := 10, ground := Go.Ground.phase }, { on := 11, ground := Go.Ground.phase }, { on := 12, ground := Go.Ground.phase }, { on := 13, ground := Go.Ground.phase }, { on := 14, ground := Go.Ground.phase }, { on := 15, ground := Go.Ground.phase }], guard := none }) (v := ?_) rfl (by kernel_rfl) (by kernel_rfl) (by kernel_rfl) (fun _ _ _ h => h) (Or.inl ⟨by rfl, ?hy16a⟩) (by assumption) ?rest16a
        case hy16a => (intro w hSw; (try dsimp only at hSw); go_simp; first | (with_reducible rfl) | (rw [if_neg (by omega)]) | skip)
        simp only [Act.put, List.setIfInBounds_toArray, List.set_cons_zero, List.set_cons_succ]
        refine wpAnyH_done (by kernel_rfl) ?_ _
        refine NoPanic.normal ?_
        go_wp2_with fail
        go_roundw
        case rel => exact ⟨i + 1, by go_num, by omega, hid (by rw [HS.out, if_pos trivial]; exact OwnRg.step howna), hid hba⟩
        case measure => simp [intOf]; omega
    · have hie : i = x.f6.length := by omega
      subst hie
      go_wp2
      go_ret
      have hO := HO.out
      rw [List.take_length] at hO
      obtain ⟨A', c', rfl, hrow⟩ := hO.row (fun y hy => by
        obtain ⟨z, hz, rfl⟩ := List.mem_map.1 hy
        have := (HF.out.pick z (List.mem_filter.1 hz).1).2
        exact ⟨this.1, this.2, this.1, this.2⟩)
      exact ⟨A', c', rfl, hrow, HB.out⟩
theorem want1_walk (B : Nat) (x : S152) (A : Option Addr) (c : Nat) (r : Int) (W : World) (h : BoxQ B x A c W) (hC : Kd.C k157 W A x.f6.length x.f6) (hf : FineQ x) (hr : 0 ≤ r) (hr2 : r ≤ 1099511627776) (hG : Glob W) :
    Calls Tryd.prog 147 #[.int .i64 r, .pointer (some ⟨B, 0, none⟩)] W (PW W (rgQ x r)) := by
  by_cases h0 : x.f0 = 0
  · exact want1_0 B x A c r W h hf h0 hr hr2
  by_cases h1 : x.f0 = 1
  · exact want1_1 B x A c r W h hf h1 hr hr2 hG
  by_cases h2 : x.f0 = 2
  · exact want1_2 B x A c r W h hf h2 hr hr2 hG
  · exact want1_3 B x A c r W h hC hf ⟨h0, h1, h2⟩ hr hr2
theorem rgQ_len (x : S152) (r : Int) (h : x.f6.length ≤ 20) : (rgQ x r).length ≤ 1000 := by
  unfold rgQ
  split
  · split <;> simp
  · split
    · simp
    · split
      · simp
      · rw [rgP, List.length_map]
        have := List.length_filter_le (fun y : S157 => chB y.f1.f0 y.f1.f1 r) x.f6
        omega
/-- only block g changes, and g is none of w0's -/
theorem below_rd {w0 w W : World} {g : Nat} (hb : Below w0.heap.size w0 w) (hg : w0.heap.size ≤ g) (hr : Rd g w W) : Below w0.heap.size w0 W :=
  hb.grown hr hb.size (fun k hk => by cases hk; exact hg)
/-- a want of the document, in a box of its own, is one of the program -/
theorem want_wants {w0 w : World} {g B : Nat} {x : S152} {A : Option Addr} {c : Nat} (hb : Below w0.heap.size w0 w) (hg : w0.heap.size ≤ g) (hne : B ≠ g) (h : BoxQ B x A c w) (hC : Kd.C k157 w0 A x.f6.length x.f6) (hf : FineQ x) (hG : Glob w0) :
    Wants g 147 #[.pointer (some ⟨B, 0, none⟩)] w (rgQ x) :=
  ⟨enters Tryd.func147 (by kernel_rfl) rfl, fun r => rgQ_len x r hf.len, fun r r0 r1 W hW => want1_walk B x A c r W (h.rd hne hW) (Kd.C_below hC (below_rd hb hg hW)) hf r0 r1 (hG.of (below_rd hb hg hW))⟩
end Go.Proofs.YtiohiiekaofkbaaDoor
