/- Fine: are asks no more than is looked at, with spans as they should be? -/
import Derived.Test.YtiohiiekaofkbaaDoorE4
namespace Go.Proofs.YtiohiiekaofkbaaDoor
set_option linter.unusedVariables false
set_option linter.unusedSimpArgs false
open Go.RowKit Go.Proofs.YtiohiiekaofkbaaDoor.PCursorPlaces Go.Proofs.YtiohiiekaofkbaaDoorW.PrintWords

theorem right_f (a b : Int) : dobbyref02_Right.f a b = some (rightB a b) := by
  unfold dobbyref02_Right.f rightB
  split
  · split
    · split
      · split
        · simp; omega
        · simp only [Option.some.injEq, decide_eq_decide]; omega
      · simp; omega
    · simp; omega
  · simp; omega
theorem r2right_any (a b : Int) (w : World) : Calls Tryd.prog 104 #[.agg #[.int .i64 a, .int .i64 b]] w fun e w' => e = .returned (.bool (rightB a b)) ∧ Below w.heap.size w w' :=
  dobbyref02_Right.calls a b (rightB a b) w (right_f a b)
theorem item_any (a b : Int) (w : World) : Calls Tryd.prog 103 #[.agg #[.int .i64 a, .int .i64 b]] w fun e w' => e = .returned (.bool (itemB a b)) ∧ Below w.heap.size w w' :=
  dobbyref02_Item.calls a b (itemB a b) w (by
    unfold dobbyref02_Item.f
    rw [right_f, Option.bind_some]
    unfold itemB
    rcases rightB a b with _ | _
    · rfl
    · simp only [if_true, Bool.true_and]
      split
      · split
        · split
          · simp; omega
          · simp only [Option.some.injEq, decide_eq_decide]; omega
        · simp; omega
      · simp; omega)
/-- what Fine looks at in an ask -/
structure CondA (x : S154) : Prop where
  b : rightB x.f4.f5.f0 x.f4.f5.f1 = true
  q : x.f0 % 6 = 1 → itemB x.f4.f3.f0 x.f4.f3.f1 = true ∧ rightB x.f4.f4.f0 x.f4.f4.f1 = true ∧ x.f4.f6.length ≤ 20 ∧ ∀ y ∈ x.f4.f6, rightB y.f1.f0 y.f1.f1 = true
  s : x.f0 % 6 = 2 → 1 ≤ x.f1 ∧ x.f1 ≤ 64
def PFine (xs : List S154) (w : World) (e : Ending) (w' : World) : Prop := (∃ b, e = .returned (.bool b) ∧ (b = true → xs.length ≤ 30 ∧ ∀ x ∈ xs, CondA x)) ∧ Below w.heap.size w w'
theorem PFine.no {xs : List S154} {w w' : World} {e : Ending} (he : e = .returned (.bool false)) (h : Below w.heap.size w w') : PFine xs w e w' := ⟨⟨false, he, fun h => by cases h⟩, h⟩
theorem PFine.yes {xs : List S154} {w w' : World} {e : Ending} (b : Bool) (he : e = .returned (.bool b)) (hb : b = true → xs.length ≤ 30 ∧ ∀ x ∈ xs, CondA x) (h : Below w.heap.size w w') : PFine xs w e w' := ⟨⟨b, he, hb⟩, h⟩
set_option maxRecDepth 100000 in
set_option maxHeartbeats 8000000 in
theorem fine_walk (A1 : Option Addr) (c1 : Nat) (xs : List S154) (w : World) (hA : AsksAt w A1 xs) (hlen : xs.length ≤ 10000000000000) (hu8 : ∀ x ∈ xs, 0 ≤ x.f0) (hpl : ∀ x ∈ xs, x.f4.f6.length ≤ 10000000000000) :
    Calls Tryd.prog 53 #[.slice A1 xs.length c1] w (PFine xs w) := by
  have HA := hid hA
  have HU := hid hu8
  have HPL := hid hpl
  clear hA hu8 hpl
  go_enter Tryd.func53, Tryd.ntmps53
  go_wp2
  go_loopw [3] (fun v3 wr => ∃ i : Nat, v3 = .int .i64 i ∧ i ≤ xs.length ∧ i ≤ 31 ∧ Hid (∀ j (hj : j < i) (hx : j < xs.length), CondA xs[j]) ∧ Hid (Below w.heap.size w wr)) (fun v3 _ => 32 - (intOf v3).toNat)
  case atStart => exact ⟨0, by go_num, by omega, by omega, hid (fun j hj => absurd hj (by omega)), hid (Below.refl _ _)⟩
  case round =>
    obtain ⟨i, rfl, hi, hi31, HJ, HB⟩ := hrel
    by_cases hlt : i < xs.length ∧ i ≤ 30
    · obtain ⟨hlt, hi30⟩ := hlt
      obtain ⟨ad, rfl, A13, c13, e0, e1, e2, e3, e4, e5, e6, e7, e8, e9, e10, e11, e12, e13, hpk⟩ := HA.out i hlt
      obtain ⟨y, hy⟩ : ∃ y, y = xs[i] := ⟨_, rfl⟩
      rw [← hy] at e0 e1 e2 e3 e4 e5 e6 e7 e8 e9 e10 e11 e12 e13 hpk
      have HY := hid hy
      have HPK := hid (Kd.C_below hpk HB.out)
      have e0 := pw_cell_below HB.out e0
      have e1 := pw_cell_below HB.out e1
      have S0 : wr.cell? (ad.add (i * 14)) = some (.int .u8 y.f0) ∧ wr.cell? ⟨(ad.add (i * 14)).block, (ad.add (i * 14)).off + 4, none⟩ = some (.int .i64 y.f4.f0) ∧ wr.cell? ⟨(ad.add (i * 14)).block, (ad.add (i * 14)).off + 5, none⟩ = some (.int .u64 y.f4.f1) ∧ wr.cell? ⟨(ad.add (i * 14)).block, (ad.add (i * 14)).off + 6, none⟩ = some (.int .u64 y.f4.f2) ∧ wr.cell? ⟨(ad.add (i * 14)).block, (ad.add (i * 14)).off + 7, none⟩ = some (.int .i64 y.f4.f3.f0) ∧ wr.cell? ⟨(ad.add (i * 14)).block, (ad.add (i * 14)).off + 8, none⟩ = some (.int .i64 y.f4.f3.f1) ∧ wr.cell? ⟨(ad.add (i * 14)).block, (ad.add (i * 14)).off + 9, none⟩ = some (.int .i64 y.f4.f4.f0) ∧ wr.cell? ⟨(ad.add (i * 14)).block, (ad.add (i * 14)).off + 10, none⟩ = some (.int .i64 y.f4.f4.f1) ∧ wr.cell? ⟨(ad.add (i * 14)).block, (ad.add (i * 14)).off + 11, none⟩ = some (.int .i64 y.f4.f5.f0) ∧ wr.cell? ⟨(ad.add (i * 14)).block, (ad.add (i * 14)).off + 12, none⟩ = some (.int .i64 y.f4.f5.f1) ∧ wr.cell? ⟨(ad.add (i * 14)).block, (ad.add (i * 14)).off + 13, none⟩ = some (.slice A13 y.f4.f6.length c13) := ⟨e0, pw_cell_below HB.out e4, pw_cell_below HB.out e5, pw_cell_below HB.out e6, pw_cell_below HB.out e7, pw_cell_below HB.out e8, pw_cell_below HB.out e9, pw_cell_below HB.out e10, pw_cell_below HB.out e11, pw_cell_below HB.out e12, pw_cell_below HB.out e13⟩
      obtain ⟨d, hd0⟩ : ∃ d, d = y.f0 % 6 := ⟨_, rfl⟩
      have hy0 : 0 ≤ y.f0 := by rw [hy]; exact HU.out _ (List.getElem_mem hlt)
      have hpl : y.f4.f6.length ≤ 10000000000000 := by rw [hy]; exact HPL.out _ (List.getElem_mem hlt)
      have hd : y.f0.tmod 6 = d := by rw [Int.tmod_eq_emod_of_nonneg hy0, hd0]
      have HD := hid hd0
      have hi3 : (i : Int) < (xs.length : Int) := by omega
      have hi4 : (i : Int) ≤ 30 := by omega
      have HK := hid (fun (W : World) (hb : Below wr.heap.size wr W) => show W.cell? (ad.add (i * 14)) = some (.int .u8 y.f0) ∧ W.cell? ⟨(ad.add (i * 14)).block, (ad.add (i * 14)).off + 4, none⟩ = some (.int .i64 y.f4.f0) ∧ W.cell? ⟨(ad.add (i * 14)).block, (ad.add (i * 14)).off + 5, none⟩ = some (.int .u64 y.f4.f1) ∧ W.cell? ⟨(ad.add (i * 14)).block, (ad.add (i * 14)).off + 6, none⟩ = some (.int .u64 y.f4.f2) ∧ W.cell? ⟨(ad.add (i * 14)).block, (ad.add (i * 14)).off + 7, none⟩ = some (.int .i64 y.f4.f3.f0) ∧ W.cell? ⟨(ad.add (i * 14)).block, (ad.add (i * 14)).off + 8, none⟩ = some (.int .i64 y.f4.f3.f1) ∧ W.cell? ⟨(ad.add (i * 14)).block, (ad.add (i * 14)).off + 9, none⟩ = some (.int .i64 y.f4.f4.f0) ∧ W.cell? ⟨(ad.add (i * 14)).block, (ad.add (i * 14)).off + 10, none⟩ = some (.int .i64 y.f4.f4.f1) ∧ W.cell? ⟨(ad.add (i * 14)).block, (ad.add (i * 14)).off + 11, none⟩ = some (.int .i64 y.f4.f5.f0) ∧ W.cell? ⟨(ad.add (i * 14)).block, (ad.add (i * 14)).off + 12, none⟩ = some (.int .i64 y.f4.f5.f1) ∧ W.cell? ⟨(ad.add (i * 14)).block, (ad.add (i * 14)).off + 13, none⟩ = some (.slice A13 y.f4.f6.length c13) from ⟨pw_cell_below hb S0.1, pw_cell_below hb S0.2.1, pw_cell_below hb S0.2.2.1, pw_cell_below hb S0.2.2.2.1, pw_cell_below hb S0.2.2.2.2.1, pw_cell_below hb S0.2.2.2.2.2.1, pw_cell_below hb S0.2.2.2.2.2.2.1, pw_cell_below hb S0.2.2.2.2.2.2.2.1, pw_cell_below hb S0.2.2.2.2.2.2.2.2.1, pw_cell_below hb S0.2.2.2.2.2.2.2.2.2.1, pw_cell_below hb S0.2.2.2.2.2.2.2.2.2.2⟩)
      clear hy hd0 hpk e2 e3 e4 e5 e6 e7 e8 e9 e10 e11 e12 e13
      go_upto_region 4 with (fail)
      refine wp_region_noPanic ?_
      refine wp_region_held_drew (S := (fun W => W.cell? (ad.add (i * 14)) = some (.int .u8 y.f0) ∧ W.cell? ⟨(ad.add (i * 14)).block, (ad.add (i * 14)).off + 4, none⟩ = some (.int .i64 y.f4.f0) ∧ W.cell? ⟨(ad.add (i * 14)).block, (ad.add (i * 14)).off + 5, none⟩ = some (.int .u64 y.f4.f1) ∧ W.cell? ⟨(ad.add (i * 14)).block, (ad.add (i * 14)).off + 6, none⟩ = some (.int .u64 y.f4.f2) ∧ W.cell? ⟨(ad.add (i * 14)).block, (ad.add (i * 14)).off + 7, none⟩ = some (.int .i64 y.f4.f3.f0) ∧ W.cell? ⟨(ad.add (i * 14)).block, (ad.add (i * 14)).off + 8, none⟩ = some (.int .i64 y.f4.f3.f1) ∧ W.cell? ⟨(ad.add (i * 14)).block, (ad.add (i * 14)).off + 9, none⟩ = some (.int .i64 y.f4.f4.f0) ∧ W.cell? ⟨(ad.add (i * 14)).block, (ad.add (i * 14)).off + 10, none⟩ = some (.int .i64 y.f4.f4.f1) ∧ W.cell? ⟨(ad.add (i * 14)).block, (ad.add (i * 14)).off + 11, none⟩ = some (.int .i64 y.f4.f5.f0) ∧ W.cell? ⟨(ad.add (i * 14)).block, (ad.add (i * 14)).off + 12, none⟩ = some (.int .i64 y.f4.f5.f1) ∧ W.cell? ⟨(ad.add (i * 14)).block, (ad.add (i * 14)).off + 13, none⟩ = some (.slice A13 y.f4.f6.length c13))) (by kernel_rfl) ?hSa (fun hHeld => ?goa)
      case hSa => first | exact HK.out _ (Below.drew (Below.refl _ _)) | exact HK.out _ (by repeat (first | exact Below.refl _ _ | assumption | refine Below.alloc ?_ (by first | exact Nat.le_refl _ | (simp; done) | (simp; omega) | omega) _ | refine Below.drew ?_ | refine Below.setCell ?_ (by first | exact Nat.le_refl _ | (simp; done) | (simp; omega) | omega) _ | refine below_call ?_ (by assumption) (by first | exact Nat.le_refl _ | (simp; done) | (simp; omega) | omega)))
      refine wpAnyH_take (i := 0) (oi := { dst := some 17, op := Go.Op.move (Go.Operand.tmp 0), type := 93, pos := "law.go:24", after := #[], guard := none }) (v := ?_) rfl (by kernel_rfl) (by kernel_rfl) (by kernel_rfl) (fun _ _ _ h => h) (Or.inl ⟨by rfl, ?hy0a⟩) (by assumption) ?rest0a
      case hy0a => (intro w hSw; (try dsimp only at hSw); go_simp; first | (with_reducible rfl) | (rw [if_neg (by omega)]) | skip)
      simp only [Act.put, List.setIfInBounds_toArray, List.set_cons_zero, List.set_cons_succ]
      refine wpAnyH_take (i := 1) (oi := { dst := some 18, op := Go.Op.move (Go.Operand.tmp 3), type := 3, pos := "law.go:24", after := #[], guard := none }) (v := ?_) rfl (by kernel_rfl) (by kernel_rfl) (by kernel_rfl) (fun _ _ _ h => h) (Or.inl ⟨by rfl, ?hy1a⟩) (by assumption) ?rest1a
      case hy1a => (intro w hSw; (try dsimp only at hSw); go_simp; first | (with_reducible rfl) | (rw [if_neg (by omega)]) | skip)
      simp only [Act.put, List.setIfInBounds_toArray, List.set_cons_zero, List.set_cons_succ]
      refine wpAnyH_take (i := 2) (oi := { dst := some 19, op := Go.Op.indexAddr 93 (Go.Operand.tmp 17) (Go.Operand.tmp 18), type := 0, pos := "law.go:24", after := #[{ on := 0, ground := Go.Ground.data }, { on := 1, ground := Go.Ground.data }], guard := none }) (v := ?_) rfl (by kernel_rfl) (by kernel_rfl) (by kernel_rfl) (fun _ _ _ h => h) (Or.inl ⟨by rfl, ?hy2a⟩) (by assumption) ?rest2a
      case hy2a => (intro w hSw; (try dsimp only at hSw); go_simp; first | (with_reducible rfl) | (rw [if_neg (by omega)]) | skip)
      simp only [Act.put, List.setIfInBounds_toArray, List.set_cons_zero, List.set_cons_succ]
      refine wpAnyH_take (i := 3) (oi := { dst := some 20, op := Go.Op.fieldAddr 154 (Go.Operand.tmp 19) 4, type := 0, pos := "law.go:24", after := #[{ on := 2, ground := Go.Ground.data }], guard := none }) (v := ?_) rfl (by kernel_rfl) (by kernel_rfl) (by kernel_rfl) (fun _ _ _ h => h) (Or.inl ⟨by rfl, ?hy3a⟩) (by assumption) ?rest3a
      case hy3a => (intro w hSw; (try dsimp only at hSw); go_simp; first | (with_reducible rfl) | (rw [if_neg (by omega)]) | skip)
      simp only [Act.put, List.setIfInBounds_toArray, List.set_cons_zero, List.set_cons_succ]
      refine wpAnyH_take (i := 4) (oi := { dst := some 21, op := Go.Op.load 152 (Go.Operand.tmp 20), type := 152, pos := "law.go:24", after := #[{ on := 3, ground := Go.Ground.data }], guard := none }) (v := ?_) rfl (by kernel_rfl) (by kernel_rfl) (by kernel_rfl) (fun _ _ _ h => h) (Or.inl ⟨by rfl, ?hy4a⟩) (by assumption) ?rest4a
      case hy4a => (intro w hSw; (try dsimp only at hSw); go_simp; first | (with_reducible rfl) | (rw [if_neg (by omega)]) | skip)
      simp only [Act.put, List.setIfInBounds_toArray, List.set_cons_zero, List.set_cons_succ]
      refine wpAnyH_take (i := 5) (oi := { dst := some 22, op := Go.Op.move (Go.Operand.tmp 0), type := 93, pos := "law.go:24", after := #[{ on := 12, ground := Go.Ground.gcOnly Go.Departure.lateStores }], guard := none }) (v := ?_) rfl (by kernel_rfl) (by kernel_rfl) (by kernel_rfl) (fun _ _ _ h => h) (Or.inl ⟨by rfl, ?hy5a⟩) (by assumption) ?rest5a
      case hy5a => (intro w hSw; (try dsimp only at hSw); go_simp; first | (with_reducible rfl) | (rw [if_neg (by omega)]) | skip)
      simp only [Act.put, List.setIfInBounds_toArray, List.set_cons_zero, List.set_cons_succ]
      refine wpAnyH_take (i := 6) (oi := { dst := some 23, op := Go.Op.move (Go.Operand.tmp 3), type := 3, pos := "law.go:24", after := #[{ on := 12, ground := Go.Ground.gcOnly Go.Departure.lateStores }], guard := none }) (v := ?_) rfl (by kernel_rfl) (by kernel_rfl) (by kernel_rfl) (fun _ _ _ h => h) (Or.inl ⟨by rfl, ?hy6a⟩) (by assumption) ?rest6a
      case hy6a => (intro w hSw; (try dsimp only at hSw); go_simp; first | (with_reducible rfl) | (rw [if_neg (by omega)]) | skip)
      simp only [Act.put, List.setIfInBounds_toArray, List.set_cons_zero, List.set_cons_succ]
      refine wpAnyH_take (i := 7) (oi := { dst := some 24, op := Go.Op.indexAddr 93 (Go.Operand.tmp 22) (Go.Operand.tmp 23), type := 0, pos := "law.go:24", after := #[{ on := 5, ground := Go.Ground.data }, { on := 6, ground := Go.Ground.data }, { on := 12, ground := Go.Ground.gcOnly Go.Departure.lateStores }], guard := none }) (v := ?_) rfl (by kernel_rfl) (by kernel_rfl) (by kernel_rfl) (fun _ _ _ h => h) (Or.inl ⟨by rfl, ?hy7a⟩) (by assumption) ?rest7a
      case hy7a => (intro w hSw; (try dsimp only at hSw); go_simp; first | (with_reducible rfl) | (rw [if_neg (by omega)]) | skip)
      simp only [Act.put, List.setIfInBounds_toArray, List.set_cons_zero, List.set_cons_succ]
      refine wpAnyH_take (i := 8) (oi := { dst := some 25, op := Go.Op.fieldAddr 154 (Go.Operand.tmp 24) 0, type := 0, pos := "law.go:24", after := #[{ on := 7, ground := Go.Ground.data }, { on := 12, ground := Go.Ground.gcOnly Go.Departure.lateStores }], guard := none }) (v := ?_) rfl (by kernel_rfl) (by kernel_rfl) (by kernel_rfl) (fun _ _ _ h => h) (Or.inl ⟨by rfl, ?hy8a⟩) (by assumption) ?rest8a
      case hy8a => (intro w hSw; (try dsimp only at hSw); go_simp; first | (with_reducible rfl) | (rw [if_neg (by omega)]) | skip)
      simp only [Act.put, List.setIfInBounds_toArray, List.set_cons_zero, List.set_cons_succ]
      refine wpAnyH_take (i := 9) (oi := { dst := some 26, op := Go.Op.load 5 (Go.Operand.tmp 25), type := 5, pos := "law.go:24", after := #[{ on := 8, ground := Go.Ground.data }, { on := 12, ground := Go.Ground.gcOnly Go.Departure.lateStores }], guard := none }) (v := ?_) rfl (by kernel_rfl) (by kernel_rfl) (by kernel_rfl) (fun _ _ _ h => h) (Or.inl ⟨by rfl, ?hy9a⟩) (by assumption) ?rest9a
      case hy9a => (intro w hSw; (try dsimp only at hSw); go_simp; first | (with_reducible rfl) | (rw [if_neg (by omega)]) | skip)
      simp only [Act.put, List.setIfInBounds_toArray, List.set_cons_zero, List.set_cons_succ]
      refine wpAnyH_take (i := 10) (oi := { dst := some 27, op := Go.Op.binOp Go.BinOp.rem 5 (Go.Operand.tmp 26) (Go.Operand.const (Go.Value.int Go.IntKind.u8 6)) 5, type := 5, pos := "law.go:24", after := #[{ on := 9, ground := Go.Ground.data }, { on := 12, ground := Go.Ground.gcOnly Go.Departure.lateStores }], guard := none }) (v := ?_) rfl (by kernel_rfl) (by kernel_rfl) (by kernel_rfl) (fun _ _ _ h => h) (Or.inl ⟨by rfl, ?hy10a⟩) (by assumption) ?rest10a
      case hy10a => (intro w hSw; (try dsimp only at hSw); go_simp; first | (with_reducible rfl) | (rw [if_neg (by omega)]) | skip)
      simp only [Act.put, List.setIfInBounds_toArray, List.set_cons_zero, List.set_cons_succ]
      refine wpAnyH_ready (rs := [11]) (by kernel_rfl) (by simp) ?_
      refine AllReadyH.cons (o := { dst := some 4, op := Go.Op.alloc 152, type := 0, pos := "law.go:24", after := #[], guard := none }) rfl (fun K hK => ?_) AllReadyH.nil
      go_simp
      refine hK.out _ _ ?_ (fun hHeld => ?_)
      · (try dsimp only); first | exact HK.out _ (Below.drew (Below.refl _ _)) | exact HK.out _ (by repeat (first | exact Below.refl _ _ | assumption | refine Below.alloc ?_ (by first | exact Nat.le_refl _ | (simp; done) | (simp; omega) | omega) _ | refine Below.drew ?_ | refine Below.setCell ?_ (by first | exact Nat.le_refl _ | (simp; done) | (simp; omega) | omega) _ | refine below_call ?_ (by assumption) (by first | exact Nat.le_refl _ | (simp; done) | (simp; omega) | omega)))
      clear hK K
      try simp only [Act.put, List.setIfInBounds_toArray, List.set_cons_zero, List.set_cons_succ]
      refine wpAnyH_ready (rs := [12]) (by kernel_rfl) (by simp) ?_
      refine AllReadyH.cons (o := { dst := none, op := Go.Op.store 152 (Go.Operand.tmp 4) (Go.Operand.tmp 21), type := 0, pos := "law.go:24", after := #[{ on := 11, ground := Go.Ground.data }, { on := 4, ground := Go.Ground.data }, { on := 0, ground := Go.Ground.phase }, { on := 1, ground := Go.Ground.phase }, { on := 2, ground := Go.Ground.phase }, { on := 3, ground := Go.Ground.phase }, { on := 4, ground := Go.Ground.phase }, { on := 5, ground := Go.Ground.textOnly Go.Departure.lateStores }, { on := 6, ground := Go.Ground.textOnly Go.Departure.lateStores }, { on := 7, ground := Go.Ground.textOnly Go.Departure.lateStores }, { on := 8, ground := Go.Ground.textOnly Go.Departure.lateStores }, { on := 9, ground := Go.Ground.textOnly Go.Departure.lateStores }, { on := 10, ground := Go.Ground.textOnly Go.Departure.lateStores }, { on := 11, ground := Go.Ground.phase }], guard := none }) rfl (fun K hK => ?_) AllReadyH.nil
      go_simp
      refine hK.out _ _ ?_ (fun hHeld => ?_)
      · (try dsimp only); first | exact HK.out _ (Below.drew (Below.refl _ _)) | exact HK.out _ (by repeat (first | exact Below.refl _ _ | assumption | refine Below.alloc ?_ (by first | exact Nat.le_refl _ | (simp; done) | (simp; omega) | omega) _ | refine Below.drew ?_ | refine Below.setCell ?_ (by first | exact Nat.le_refl _ | (simp; done) | (simp; omega) | omega) _ | refine below_call ?_ (by assumption) (by first | exact Nat.le_refl _ | (simp; done) | (simp; omega) | omega)))
      clear hK K
      try simp only [Act.put, List.setIfInBounds_toArray, List.set_cons_zero, List.set_cons_succ]
      refine wpAnyH_take (i := 13) (oi := { dst := some 5, op := Go.Op.assign (Go.Operand.tmp 27), type := 5, pos := "law.go:24", after := #[{ on := 10, ground := Go.Ground.data }, { on := 12, ground := Go.Ground.chain }, { on := 0, ground := Go.Ground.phase }, { on := 1, ground := Go.Ground.phase }, { on := 2, ground := Go.Ground.phase }, { on := 3, ground := Go.Ground.phase }, { on := 4, ground := Go.Ground.phase }, { on := 5, ground := Go.Ground.phase }, { on := 6, ground := Go.Ground.phase }, { on := 7, ground := Go.Ground.phase }, { on := 8, ground := Go.Ground.phase }, { on := 9, ground := Go.Ground.phase }, { on := 10, ground := Go.Ground.phase }, { on := 11, ground := Go.Ground.phase }, { on := 12, ground := Go.Ground.phase }], guard := none }) (v := ?_) rfl (by kernel_rfl) (by kernel_rfl) (by kernel_rfl) (fun _ _ _ h => h) (Or.inl ⟨by rfl, ?hy13a⟩) (by assumption) ?rest13a
      case hy13a => (intro w hSw; (try dsimp only at hSw); go_simp; first | (with_reducible rfl) | (rw [if_neg (by omega)]) | skip)
      simp only [Act.put, List.setIfInBounds_toArray, List.set_cons_zero, List.set_cons_succ]
      refine wpAnyH_done (by kernel_rfl) ?_ _
      refine NoPanic.normal ?_
      obtain ⟨W0, hW0⟩ : ∃ W0, W0 = (wr.alloc (.cells #[.int .i64 y.f4.f0, .int .u64 y.f4.f1, .int .u64 y.f4.f2, .int .i64 y.f4.f3.f0, .int .i64 y.f4.f3.f1, .int .i64 y.f4.f4.f0, .int .i64 y.f4.f4.f1, .int .i64 y.f4.f5.f0, .int .i64 y.f4.f5.f1, .slice A13 y.f4.f6.length c13] 152)).drew := ⟨_, rfl⟩
      have hbW : Below wr.heap.size wr W0 := by rw [hW0]; exact (by repeat (first | exact Below.refl _ _ | assumption | refine Below.alloc ?_ (by first | exact Nat.le_refl _ | (simp; done) | (simp; omega) | omega) _ | refine Below.drew ?_ | refine Below.setCell ?_ (by first | exact Nat.le_refl _ | (simp; done) | (simp; omega) | omega) _ | refine below_call ?_ (by assumption) (by first | exact Nat.le_refl _ | (simp; done) | (simp; omega) | omega)))
      have x0 : W0.cell? ⟨wr.heap.size, 0, none⟩ = some (.int .i64 y.f4.f0) := by rw [hW0]; go_simp
      have x3 : W0.cell? ⟨wr.heap.size, 3, none⟩ = some (.int .i64 y.f4.f3.f0) := by rw [hW0]; go_simp
      have x4 : W0.cell? ⟨wr.heap.size, 4, none⟩ = some (.int .i64 y.f4.f3.f1) := by rw [hW0]; go_simp
      have x5 : W0.cell? ⟨wr.heap.size, 5, none⟩ = some (.int .i64 y.f4.f4.f0) := by rw [hW0]; go_simp
      have x6 : W0.cell? ⟨wr.heap.size, 6, none⟩ = some (.int .i64 y.f4.f4.f1) := by rw [hW0]; go_simp
      have x7 : W0.cell? ⟨wr.heap.size, 7, none⟩ = some (.int .i64 y.f4.f5.f0) := by rw [hW0]; go_simp
      have x8 : W0.cell? ⟨wr.heap.size, 8, none⟩ = some (.int .i64 y.f4.f5.f1) := by rw [hW0]; go_simp
      have x9 : W0.cell? ⟨wr.heap.size, 9, none⟩ = some (.slice A13 y.f4.f6.length c13) := by rw [hW0]; go_simp
      rw [← hW0]
      clear hW0 hHeld S0 e0
      have HBR := hid hbW
      have e1 := pw_cell_below hbW e1
      have HE1 := hid (fun (W : World) (hb : Below W0.heap.size W0 W) => pw_cell_below hb e1)
      have HKX := hid (fun (W : World) (hb : Below W0.heap.size W0 W) => show W.cell? ⟨wr.heap.size, 0, none⟩ = some (.int .i64 y.f4.f0) ∧ W.cell? ⟨wr.heap.size, 3, none⟩ = some (.int .i64 y.f4.f3.f0) ∧ W.cell? ⟨wr.heap.size, 4, none⟩ = some (.int .i64 y.f4.f3.f1) ∧ W.cell? ⟨wr.heap.size, 5, none⟩ = some (.int .i64 y.f4.f4.f0) ∧ W.cell? ⟨wr.heap.size, 6, none⟩ = some (.int .i64 y.f4.f4.f1) ∧ W.cell? ⟨wr.heap.size, 7, none⟩ = some (.int .i64 y.f4.f5.f0) ∧ W.cell? ⟨wr.heap.size, 8, none⟩ = some (.int .i64 y.f4.f5.f1) ∧ W.cell? ⟨wr.heap.size, 9, none⟩ = some (.slice A13 y.f4.f6.length c13) from ⟨still hb x0, still hb x3, still hb x4, still hb x5, still hb x6, still hb x7, still hb x8, still hb x9⟩)
      have HBW := hid (Below.refl W0.heap.size W0)
      go_upto_region 5 with (fail)
      go_cut [63] (fun s63 wx => ∃ bd, s63 = .bool bd ∧ Hid (bd = false → rightB y.f4.f5.f0 y.f4.f5.f1 = true ∧ (d = 1 → itemB y.f4.f3.f0 y.f4.f3.f1 = true ∧ rightB y.f4.f4.f0 y.f4.f4.f1 = true ∧ y.f4.f6.length ≤ 20)) ∧ Hid (Below W0.heap.size W0 wx))
      case first =>
        have HI := hid (fun W => item_any y.f4.f3.f0 y.f4.f3.f1 W)
        have HO := hid (fun W => r2right_any y.f4.f4.f0 y.f4.f4.f1 W)
        have HH := hid (fun W => r2right_any y.f4.f5.f0 y.f4.f5.f1 W)
        rcases hd1 : (d == 1) with _ | _
        rotate_left
        · by_cases k0 : y.f4.f0 < 0
          · go_wp2_with (first | (go_at_call 103; (with_reducible refine (HI.out _).mono ?_); rintro e w1 ⟨rfl, hb1⟩; have HBW := hid (HBW.out.trans (hb1.mono HBW.out.size)); obtain ⟨x0, x3, x4, x5, x6, x7, x8, x9⟩ := HKX.out _ HBW.out) | (go_at_call 104; (with_reducible refine (HO.out _).mono ?_); rintro e w1 ⟨rfl, hb1⟩; have HBW := hid (HBW.out.trans (hb1.mono HBW.out.size)); obtain ⟨x0, x3, x4, x5, x6, x7, x8, x9⟩ := HKX.out _ HBW.out) | (go_at_call 104; (with_reducible refine (HH.out _).mono ?_); rintro e w1 ⟨rfl, hb1⟩; have HBW := hid (HBW.out.trans (hb1.mono HBW.out.size)); obtain ⟨x0, x3, x4, x5, x6, x7, x8, x9⟩ := HKX.out _ HBW.out))
            go_meet
            exact ⟨_, rfl, hid (fun h => by cases h), HBW⟩
          by_cases k3 : 3 < y.f4.f0
          · go_wp2_with (first | (go_at_call 103; (with_reducible refine (HI.out _).mono ?_); rintro e w1 ⟨rfl, hb1⟩; have HBW := hid (HBW.out.trans (hb1.mono HBW.out.size)); obtain ⟨x0, x3, x4, x5, x6, x7, x8, x9⟩ := HKX.out _ HBW.out) | (go_at_call 104; (with_reducible refine (HO.out _).mono ?_); rintro e w1 ⟨rfl, hb1⟩; have HBW := hid (HBW.out.trans (hb1.mono HBW.out.size)); obtain ⟨x0, x3, x4, x5, x6, x7, x8, x9⟩ := HKX.out _ HBW.out) | (go_at_call 104; (with_reducible refine (HH.out _).mono ?_); rintro e w1 ⟨rfl, hb1⟩; have HBW := hid (HBW.out.trans (hb1.mono HBW.out.size)); obtain ⟨x0, x3, x4, x5, x6, x7, x8, x9⟩ := HKX.out _ HBW.out))
            go_meet
            exact ⟨_, rfl, hid (fun h => by cases h), HBW⟩
          rcases q1 : itemB y.f4.f3.f0 y.f4.f3.f1 with _ | _
          · rw [q1] at HI
            go_wp2_with (first | (go_at_call 103; (with_reducible refine (HI.out _).mono ?_); rintro e w1 ⟨rfl, hb1⟩; have HBW := hid (HBW.out.trans (hb1.mono HBW.out.size)); obtain ⟨x0, x3, x4, x5, x6, x7, x8, x9⟩ := HKX.out _ HBW.out) | (go_at_call 104; (with_reducible refine (HO.out _).mono ?_); rintro e w1 ⟨rfl, hb1⟩; have HBW := hid (HBW.out.trans (hb1.mono HBW.out.size)); obtain ⟨x0, x3, x4, x5, x6, x7, x8, x9⟩ := HKX.out _ HBW.out) | (go_at_call 104; (with_reducible refine (HH.out _).mono ?_); rintro e w1 ⟨rfl, hb1⟩; have HBW := hid (HBW.out.trans (hb1.mono HBW.out.size)); obtain ⟨x0, x3, x4, x5, x6, x7, x8, x9⟩ := HKX.out _ HBW.out))
            go_meet
            exact ⟨_, rfl, hid (fun h => by cases h), HBW⟩
          rcases q2 : rightB y.f4.f4.f0 y.f4.f4.f1 with _ | _
          · rw [q1] at HI
            rw [q2] at HO
            go_wp2_with (first | (go_at_call 103; (with_reducible refine (HI.out _).mono ?_); rintro e w1 ⟨rfl, hb1⟩; have HBW := hid (HBW.out.trans (hb1.mono HBW.out.size)); obtain ⟨x0, x3, x4, x5, x6, x7, x8, x9⟩ := HKX.out _ HBW.out) | (go_at_call 104; (with_reducible refine (HO.out _).mono ?_); rintro e w1 ⟨rfl, hb1⟩; have HBW := hid (HBW.out.trans (hb1.mono HBW.out.size)); obtain ⟨x0, x3, x4, x5, x6, x7, x8, x9⟩ := HKX.out _ HBW.out) | (go_at_call 104; (with_reducible refine (HH.out _).mono ?_); rintro e w1 ⟨rfl, hb1⟩; have HBW := hid (HBW.out.trans (hb1.mono HBW.out.size)); obtain ⟨x0, x3, x4, x5, x6, x7, x8, x9⟩ := HKX.out _ HBW.out))
            go_meet
            exact ⟨_, rfl, hid (fun h => by cases h), HBW⟩
          by_cases q3 : 20 < (y.f4.f6.length : Int)
          · rw [q1] at HI
            rw [q2] at HO
            go_wp2_with (first | (go_at_call 103; (with_reducible refine (HI.out _).mono ?_); rintro e w1 ⟨rfl, hb1⟩; have HBW := hid (HBW.out.trans (hb1.mono HBW.out.size)); obtain ⟨x0, x3, x4, x5, x6, x7, x8, x9⟩ := HKX.out _ HBW.out) | (go_at_call 104; (with_reducible refine (HO.out _).mono ?_); rintro e w1 ⟨rfl, hb1⟩; have HBW := hid (HBW.out.trans (hb1.mono HBW.out.size)); obtain ⟨x0, x3, x4, x5, x6, x7, x8, x9⟩ := HKX.out _ HBW.out) | (go_at_call 104; (with_reducible refine (HH.out _).mono ?_); rintro e w1 ⟨rfl, hb1⟩; have HBW := hid (HBW.out.trans (hb1.mono HBW.out.size)); obtain ⟨x0, x3, x4, x5, x6, x7, x8, x9⟩ := HKX.out _ HBW.out))
            go_meet
            exact ⟨_, rfl, hid (fun h => by cases h), HBW⟩
          rcases q4 : rightB y.f4.f5.f0 y.f4.f5.f1 with _ | _
          · rw [q1] at HI
            rw [q2] at HO
            rw [q4] at HH
            go_wp2_with (first | (go_at_call 103; (with_reducible refine (HI.out _).mono ?_); rintro e w1 ⟨rfl, hb1⟩; have HBW := hid (HBW.out.trans (hb1.mono HBW.out.size)); obtain ⟨x0, x3, x4, x5, x6, x7, x8, x9⟩ := HKX.out _ HBW.out) | (go_at_call 104; (with_reducible refine (HO.out _).mono ?_); rintro e w1 ⟨rfl, hb1⟩; have HBW := hid (HBW.out.trans (hb1.mono HBW.out.size)); obtain ⟨x0, x3, x4, x5, x6, x7, x8, x9⟩ := HKX.out _ HBW.out) | (go_at_call 104; (with_reducible refine (HH.out _).mono ?_); rintro e w1 ⟨rfl, hb1⟩; have HBW := hid (HBW.out.trans (hb1.mono HBW.out.size)); obtain ⟨x0, x3, x4, x5, x6, x7, x8, x9⟩ := HKX.out _ HBW.out))
            go_meet
            exact ⟨_, rfl, hid (fun h => by cases h), HBW⟩
          · rw [q1] at HI
            rw [q2] at HO
            rw [q4] at HH
            go_wp2_with (first | (go_at_call 103; (with_reducible refine (HI.out _).mono ?_); rintro e w1 ⟨rfl, hb1⟩; have HBW := hid (HBW.out.trans (hb1.mono HBW.out.size)); obtain ⟨x0, x3, x4, x5, x6, x7, x8, x9⟩ := HKX.out _ HBW.out) | (go_at_call 104; (with_reducible refine (HO.out _).mono ?_); rintro e w1 ⟨rfl, hb1⟩; have HBW := hid (HBW.out.trans (hb1.mono HBW.out.size)); obtain ⟨x0, x3, x4, x5, x6, x7, x8, x9⟩ := HKX.out _ HBW.out) | (go_at_call 104; (with_reducible refine (HH.out _).mono ?_); rintro e w1 ⟨rfl, hb1⟩; have HBW := hid (HBW.out.trans (hb1.mono HBW.out.size)); obtain ⟨x0, x3, x4, x5, x6, x7, x8, x9⟩ := HKX.out _ HBW.out))
            go_meet
            exact ⟨_, rfl, hid (fun _ => ⟨q4, fun _ => ⟨q1, q2, by omega⟩⟩), HBW⟩
        · rcases q4 : rightB y.f4.f5.f0 y.f4.f5.f1 with _ | _
          · rw [q4] at HH
            go_wp2_with (first | (go_at_call 103; (with_reducible refine (HI.out _).mono ?_); rintro e w1 ⟨rfl, hb1⟩; have HBW := hid (HBW.out.trans (hb1.mono HBW.out.size)); obtain ⟨x0, x3, x4, x5, x6, x7, x8, x9⟩ := HKX.out _ HBW.out) | (go_at_call 104; (with_reducible refine (HO.out _).mono ?_); rintro e w1 ⟨rfl, hb1⟩; have HBW := hid (HBW.out.trans (hb1.mono HBW.out.size)); obtain ⟨x0, x3, x4, x5, x6, x7, x8, x9⟩ := HKX.out _ HBW.out) | (go_at_call 104; (with_reducible refine (HH.out _).mono ?_); rintro e w1 ⟨rfl, hb1⟩; have HBW := hid (HBW.out.trans (hb1.mono HBW.out.size)); obtain ⟨x0, x3, x4, x5, x6, x7, x8, x9⟩ := HKX.out _ HBW.out))
            go_meet
            exact ⟨_, rfl, hid (fun h => by cases h), HBW⟩
          · rw [q4] at HH
            go_wp2_with (first | (go_at_call 103; (with_reducible refine (HI.out _).mono ?_); rintro e w1 ⟨rfl, hb1⟩; have HBW := hid (HBW.out.trans (hb1.mono HBW.out.size)); obtain ⟨x0, x3, x4, x5, x6, x7, x8, x9⟩ := HKX.out _ HBW.out) | (go_at_call 104; (with_reducible refine (HO.out _).mono ?_); rintro e w1 ⟨rfl, hb1⟩; have HBW := hid (HBW.out.trans (hb1.mono HBW.out.size)); obtain ⟨x0, x3, x4, x5, x6, x7, x8, x9⟩ := HKX.out _ HBW.out) | (go_at_call 104; (with_reducible refine (HH.out _).mono ?_); rintro e w1 ⟨rfl, hb1⟩; have HBW := hid (HBW.out.trans (hb1.mono HBW.out.size)); obtain ⟨x0, x3, x4, x5, x6, x7, x8, x9⟩ := HKX.out _ HBW.out))
            go_meet
            exact ⟨_, rfl, hid (fun _ => ⟨q4, fun h => by rw [h] at hd1; cases hd1⟩), HBW⟩
      case rest =>
        obtain ⟨bd, rfl, HBD, HBx⟩ := hcut
        rcases bd with _ | _
        · obtain ⟨hbeh, hq⟩ := HBD.out rfl
          have HQ := hid hq
          have hxc := HKX.out _ HBx.out
          have x9 := hxc.2.2.2.2.2.2.2
          have HPW := hid (Kd.C_below (Kd.C_below HPK.out HBR.out) HBx.out)
          have e1 := HE1.out _ HBx.out
          have HE1 := hid (fun (W : World) (hb : Below wc.heap.size wc W) => pw_cell_below hb e1)
          have HBc := hid (HB.out.trans ((HBR.out.trans (HBx.out.mono HBR.out.size)).mono HB.out.size))
          clear hq hxc HBD
          go_wp2
          go_loopw [6] (fun v6 wi => ∃ k : Nat, v6 = .int .i64 k ∧ k ≤ y.f4.f6.length ∧ Hid (∀ j (hj : j < k) (hx : j < y.f4.f6.length), rightB y.f4.f6[j].f1.f0 y.f4.f6[j].f1.f1 = true) ∧ Hid (Below wc.heap.size wc wi)) (fun v6 _ => y.f4.f6.length - (intOf v6).toNat)
          case atStart => exact ⟨0, by go_num, by omega, hid (fun j hj => absurd hj (by omega)), hid (Below.refl _ _)⟩
          case round =>
            obtain ⟨k, rfl, hk, HP, HBi⟩ := hrel
            have x9 := still HBi.out x9
            by_cases g1 : k < y.f4.f6.length
            · rcases g2 : (d == 1) with _ | _
              · have HPK1 := hid (fun (h : d = 1) => show ∀ z ∈ y.f4.f6, rightB z.f1.f0 z.f1.f1 = true from by rw [h] at g2; cases g2)
                have hk3 : (k : Int) < (y.f4.f6.length : Int) := by omega
                have e1 := HE1.out _ HBi.out
                have HBw := hid (HBc.out.trans (HBi.out.mono HBc.out.size))
                rcases hd2 : (d == 2) with _ | _
                · have HCA := hid (show CondA y from ⟨hbeh, fun h => have hd' : d = 1 := HD.out.trans h; ⟨(HQ.out hd').1, (HQ.out hd').2.1, (HQ.out hd').2.2, HPK1.out hd'⟩, fun h => by rw [HD.out.trans h] at hd2; cases hd2⟩)
                  go_wp2
                  go_roundw
                  case rel => exact ⟨i + 1, by go_num, by omega, by omega, hid (fun j hj hx => by
                    by_cases e : j < i
                    · exact HJ.out j e hx
                    · have : j = i := by omega
                      subst this; rw [← HY.out]; exact HCA.out), HBw⟩
                  case measure => simp [intOf]; omega
                · by_cases s1 : y.f1 < 1
                  · go_wp2
                    go_ret
                    exact PFine.no rfl (HBw.out)
                  by_cases s2 : 64 < y.f1
                  · go_wp2
                    go_ret
                    exact PFine.no rfl (HBw.out)
                  · have HCA := hid (show CondA y from ⟨hbeh, fun h => have hd' : d = 1 := HD.out.trans h; ⟨(HQ.out hd').1, (HQ.out hd').2.1, (HQ.out hd').2.2, HPK1.out hd'⟩, fun h => by omega⟩)
                    go_wp2
                    go_roundw
                    case rel => exact ⟨i + 1, by go_num, by omega, by omega, hid (fun j hj hx => by
                      by_cases e : j < i
                      · exact HJ.out j e hx
                      · have : j = i := by omega
                        subst this; rw [← HY.out]; exact HCA.out), HBw⟩
                    case measure => simp [intOf]; omega
              · obtain ⟨ap, rfl, _, z1, z2⟩ := at_T157 (Kd.C_below HPW.out HBi.out) (k : Int) (by omega) (by omega)
                rw [Int.toNat_natCast] at z1 z2
                have hk3 : (k : Int) < (y.f4.f6.length : Int) := by omega
                have er : rd_T157 y.f4.f6 (k : Int) = y.f4.f6[k] := by simp [rd_T157, List.getD_eq_getElem?_getD, List.getElem?_eq_getElem g1]
                have HRP := hid (fun W => r2right_any (rd_T157 y.f4.f6 (k : Int)).f1.f0 (rd_T157 y.f4.f6 (k : Int)).f1.f1 W)
                rcases hp : rightB (rd_T157 y.f4.f6 (k : Int)).f1.f0 (rd_T157 y.f4.f6 (k : Int)).f1.f1 with _ | _
                · rw [hp] at HRP
                  clear er hp
                  go_wp2_with (first | (go_at_call 104; (with_reducible refine (HRP.out _).mono ?_); rintro e w1 ⟨rfl, hb1⟩))
                  go_ret
                  exact PFine.no rfl (HBc.out.trans ((HBi.out.trans (hb1.mono HBi.out.size)).mono HBc.out.size))
                · rw [hp] at HRP
                  have HPE := hid (show rightB y.f4.f6[k].f1.f0 y.f4.f6[k].f1.f1 = true by rw [← er]; exact hp)
                  clear er hp
                  go_wp2_with (first | (go_at_call 104; (with_reducible refine (HRP.out _).mono ?_); rintro e w1 ⟨rfl, hb1⟩))
                  go_roundw
                  case rel => exact ⟨k + 1, by go_num, by omega, hid (fun j hj hx => by
                    by_cases e : j < k
                    · exact HP.out j e hx
                    · have : j = k := by omega
                      subst this; exact HPE.out), hid (HBi.out.trans (hb1.mono HBi.out.size))⟩
                  case measure => simp [intOf]; omega
            · have hk3 : ¬ (k : Int) < (y.f4.f6.length : Int) := by omega
              have HPK1 := hid (fun (h : d = 1) => show ∀ z ∈ y.f4.f6, rightB z.f1.f0 z.f1.f1 = true from fun z hz => by
                obtain ⟨j, hj, rfl⟩ := List.getElem_of_mem hz
                exact HP.out j (by omega) hj)
              have e1 := HE1.out _ HBi.out
              have HBw := hid (HBc.out.trans (HBi.out.mono HBc.out.size))
              rcases hd2 : (d == 2) with _ | _
              · have HCA := hid (show CondA y from ⟨hbeh, fun h => have hd' : d = 1 := HD.out.trans h; ⟨(HQ.out hd').1, (HQ.out hd').2.1, (HQ.out hd').2.2, HPK1.out hd'⟩, fun h => by rw [HD.out.trans h] at hd2; cases hd2⟩)
                go_wp2
                go_roundw
                case rel => exact ⟨i + 1, by go_num, by omega, by omega, hid (fun j hj hx => by
                  by_cases e : j < i
                  · exact HJ.out j e hx
                  · have : j = i := by omega
                    subst this; rw [← HY.out]; exact HCA.out), HBw⟩
                case measure => simp [intOf]; omega
              · by_cases s1 : y.f1 < 1
                · go_wp2
                  go_ret
                  exact PFine.no rfl (HBw.out)
                by_cases s2 : 64 < y.f1
                · go_wp2
                  go_ret
                  exact PFine.no rfl (HBw.out)
                · have HCA := hid (show CondA y from ⟨hbeh, fun h => have hd' : d = 1 := HD.out.trans h; ⟨(HQ.out hd').1, (HQ.out hd').2.1, (HQ.out hd').2.2, HPK1.out hd'⟩, fun h => by omega⟩)
                  go_wp2
                  go_roundw
                  case rel => exact ⟨i + 1, by go_num, by omega, by omega, hid (fun j hj hx => by
                    by_cases e : j < i
                    · exact HJ.out j e hx
                    · have : j = i := by omega
                      subst this; rw [← HY.out]; exact HCA.out), HBw⟩
                  case measure => simp [intOf]; omega
        · go_wp2
          go_ret
          exact PFine.no rfl (HB.out.trans ((HBR.out.trans (HBx.out.mono HBR.out.size)).mono HB.out.size))
    · go_wp2
      all_goals
        go_ret
        exact PFine.yes _ rfl (fun h => by
          have hl : xs.length ≤ 30 := by simp at h; omega
          refine ⟨hl, fun x hx => ?_⟩
          obtain ⟨j, hj, rfl⟩ := List.getElem_of_mem hx
          exact HJ.out j (by omega) hj) HB.out
end Go.Proofs.YtiohiiekaofkbaaDoor
