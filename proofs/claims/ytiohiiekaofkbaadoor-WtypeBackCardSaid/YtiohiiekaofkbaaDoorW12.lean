/- WtypeBack: types as they are told back. -/
import Derived.Test.YtiohiiekaofkbaaDoorW3
import Derived.Test.YtiohiiekaofkbaaDoorQ6
import Derived.Test.YtiohiiekaofkbaaDoorZE
namespace Go.Proofs.YtiohiiekaofkbaaDoor
set_option linter.unusedVariables false
set_option linter.unusedSimpArgs false
open Go.RowKit Go.Proofs.YtiohiiekaofkbaaDoor.PWtypePuts Go.Proofs.YtiohiiekaofkbaaDoorW.PrintWords

theorem own_convF {W : World} {base : Nat} {v : Value} {l : List Int} {s : ByteArray} (h : Own W base v l) (e : strOfNums l = s) : (convert 70 9 v).run Tryd.prog W = .ok (.string s) W := by
  rw [← e]; exact own_conv h
theorem own_one (w : World) (x : Int) : Own (w.alloc (.cells #[.int .u8 x] 5)) w.heap.size (.slice (some ⟨w.heap.size, 0, none⟩) 1 1) [x] :=
  World.ownsRow_lit w #[.int .u8 x] 1 (Nat.le_refl _) (by decide) rfl
set_option maxRecDepth 100000 in
set_option maxHeartbeats 4000000 in
theorem text_walk (A : Option Addr) (c : Nat) (l : List Int) (w : World) (hC : CV w A l) (hlen : l.length ≤ 100000) :
    Calls Tryd.prog 101 #[.slice A l.length c] w fun e w' => e = .returned (.string (strOfNums l)) ∧ Below w.heap.size w w' := by
  have HC := hid hC
  clear hC
  go_enter Tryd.func101, Tryd.ntmps101
  go_wp2
  go_loopw [3, 4] (fun v3 v4 wr => ∃ i : Nat, ∃ s : ByteArray, v3 = .string s ∧ v4 = .int .i64 i ∧ i ≤ l.length ∧ Hid (s = strOfNums (l.take i)) ∧ s.size ≤ 100000 ∧ w.heap.size ≤ wr.heap.size ∧ Hid (Below w.heap.size w wr)) (fun _ v4 _ => l.length - (intOf v4).toNat)
  case atStart => exact ⟨0, _, rfl, by go_num, by omega, hid rfl, by decide, Nat.le_refl _, Below.refl _ _⟩
  case round =>
    obtain ⟨i, s, rfl, rfl, hi1, HS, hsz1, hsz, HB⟩ := hrel
    by_cases hlt : i < l.length
    · have hcr := Kd.C_below HC.out HB.out
      obtain ⟨ad, rfl, e1⟩ := Kd.at_int hcr (i : Int) (by omega) (by omega)
      rw [Int.toNat_natCast, rdV hlt] at e1
      clear hcr
      have HT := hid (show strOfNums (l.take i) ++ strOfNums [l[i]] = strOfNums (l.take (i + 1)) by rw [str_app, List.take_append_getElem hlt])
      have HL := hid (show (strOfNums (l.take (i + 1))).size ≤ 100000 by rw [str_size, List.length_take]; omega)
      obtain ⟨x, hx⟩ : ∃ x, x = l[i] := ⟨_, rfl⟩
      rw [← hx] at e1 HT
      clear hx
      obtain ⟨s1, hs1⟩ : ∃ s1, strOfNums [x] = s1 := ⟨_, rfl⟩
      have hs2 : s1.size = 1 := by rw [← hs1, str_size]; rfl
      have hcv := own_convF (own_one wr x) hs1
      rw [hs1] at HT
      have HS2 := hid hs2
      have hs3 : s1.size ≤ 1 := by omega
      clear hs1 hs2
      go_wp2
      go_roundw
      case rel => exact ⟨i + 1, _, rfl, by go_num, by omega, hid (by rw [HS.out, HT.out]), by have := HL.out; rw [← HT.out, ← HS.out] at this; exact this, by simp; omega, hid (below_alloc HB.out _)⟩
      case measure => simp [intOf]; omega
    · go_wp2
      go_ret
      have hi : i = l.length := by omega
      subst hi
      exact ⟨by rw [HS.out, List.take_length]; rfl, HB.out⟩
theorem keepG {w w1 W : World} {a b : Value} {q0 q1 : Addr} (h : w1.cell? q0 = some a ∧ w1.cell? q1 = some b) (hb : Below w1.heap.size w1 W) (h1 : Below w.heap.size w w1) : W.cell? q0 = some a ∧ W.cell? q1 = some b ∧ Below w.heap.size w W :=
  ⟨pw_cell_below hb h.1, pw_cell_below hb h.2, h1.trans (hb.mono h1.size)⟩
set_option maxRecDepth 100000 in
set_option maxHeartbeats 4000000 in
theorem bfunc_walk (A B : Option Addr) (c d : Nat) (l m : List Int) (w : World) (hC : CV w A l) (hD : CV w B m) (hl : l.length ≤ 1000) (hm : m.length ≤ 1000) :
    Calls Tryd.prog 50 #[.agg #[.slice A l.length c, .slice B m.length d]] w fun e w' => e = .returned (.agg #[.string (strOfNums l), .string (strOfNums m)]) ∧ Below w.heap.size w w' := by
  have H1 := hid (fun W (h : Below w.heap.size w W) => text_walk A c l W (Kd.C_below hC h) (by omega))
  have H2 := hid (fun W (h : Below w.heap.size w W) => text_walk B d m W (Kd.C_below hD h) (by omega))
  clear hC hD
  go_enter Tryd.func50, Tryd.ntmps50
  go_upto_region 1 with (fail)
  obtain ⟨w1, hw1⟩ : ∃ w1, w1 = (w.alloc (.cells #[.slice A l.length c, .slice B m.length d] 56)).alloc (.cells #[.string ⟨#[]⟩, .string ⟨#[]⟩] 44) := ⟨_, rfl⟩
  have S0 : w1.cell? ⟨w.heap.size, 0, none⟩ = some (.slice A l.length c) ∧ w1.cell? ⟨w.heap.size, 1, none⟩ = some (.slice B m.length d) := by
    rw [hw1]; exact ⟨by go_simp, by go_simp⟩
  have K2 : w1.heap[w.heap.size + 1]? = some (.cells #[.string ⟨#[]⟩, .string ⟨#[]⟩] 44 (0, 0)) := by
    rw [hw1]
    have := blkN (w.alloc (.cells #[.slice A l.length c, .slice B m.length d] 56)) (.cells #[.string ⟨#[]⟩, .string ⟨#[]⟩] 44)
    rwa [show (w.alloc (.cells #[.slice A l.length c, .slice B m.length d] 56)).heap.size = w.heap.size + 1 by simp] at this
  have hB1 : Below w.heap.size w w1 := by rw [hw1]; exact (by repeat (first | exact Below.refl _ _ | assumption | refine Below.alloc ?_ (by first | exact Nat.le_refl _ | (simp; done) | (simp; omega) | omega) _ | refine Below.drew ?_ | refine Below.setCell ?_ (by first | exact Nat.le_refl _ | (simp; done) | (simp; omega) | omega) _ | refine below_call ?_ (by assumption) (by first | exact Nat.le_refl _ | (simp; done) | (simp; omega) | omega)))
  have HB1 := hid hB1
  have FZ := hid (fun W (h : Below w1.heap.size w1 W) => two_at (blkB K2 h))
  have HS := hid S0
  have hz : w.heap.size + 1 < w1.heap.size := by rw [hw1]; simp
  rw [← hw1]
  clear hw1 S0 K2 hB1
  refine wp_region_noPanic ?_
  refine wp_region_held_drew (S := (fun W => W.cell? ⟨w.heap.size, 0, none⟩ = some (.slice A l.length c) ∧ W.cell? ⟨w.heap.size, 1, none⟩ = some (.slice B m.length d) ∧ Below w.heap.size w W)) (by kernel_rfl) ?hSa1 (fun hHeld => ?goa1)
  case hSa1 => exact keepG HS.out (Below.drew (Below.refl _ _)) HB1.out
  refine wpAnyH_take (i := 0) (oi := { dst := some 3, op := Go.Op.fieldAddr 56 (Go.Operand.tmp 1) 0, type := 0, pos := "law.go:40", after := #[], guard := none }) (v := ?_) rfl (by kernel_rfl) (by kernel_rfl) (by kernel_rfl) (fun _ _ _ h => h) (Or.inl ⟨by rfl, ?hya2⟩) (by assumption) ?resta2
  case hya2 => (intro w hSw; (try dsimp only at hSw); go_simp; first | (with_reducible rfl) | (rw [if_neg (by omega)]) | skip)
  simp only [Act.put, List.setIfInBounds_toArray, List.set_cons_zero, List.set_cons_succ]
  refine wpAnyH_take (i := 1) (oi := { dst := some 4, op := Go.Op.load 54 (Go.Operand.tmp 3), type := 54, pos := "law.go:40", after := #[{ on := 0, ground := Go.Ground.data }], guard := none }) (v := ?_) rfl (by kernel_rfl) (by kernel_rfl) (by kernel_rfl) (fun _ _ _ h => h) (Or.inl ⟨by rfl, ?hya3⟩) (by assumption) ?resta3
  case hya3 => (intro w hSw; (try dsimp only at hSw); go_simp; first | (with_reducible rfl) | (rw [if_neg (by omega)]) | skip)
  simp only [Act.put, List.setIfInBounds_toArray, List.set_cons_zero, List.set_cons_succ]
  refine wpAnyH_take (i := 3) (oi := { dst := some 6, op := Go.Op.fieldAddr 56 (Go.Operand.tmp 1) 1, type := 0, pos := "law.go:40", after := #[], guard := none }) (v := ?_) rfl (by kernel_rfl) (by kernel_rfl) (by kernel_rfl) (fun _ _ _ h => h) (Or.inl ⟨by rfl, ?hya4⟩) (by assumption) ?resta4
  case hya4 => (intro w hSw; (try dsimp only at hSw); go_simp; first | (with_reducible rfl) | (rw [if_neg (by omega)]) | skip)
  simp only [Act.put, List.setIfInBounds_toArray, List.set_cons_zero, List.set_cons_succ]
  refine wpAnyH_take (i := 4) (oi := { dst := some 7, op := Go.Op.load 54 (Go.Operand.tmp 6), type := 54, pos := "law.go:40", after := #[{ on := 3, ground := Go.Ground.data }], guard := none }) (v := ?_) rfl (by kernel_rfl) (by kernel_rfl) (by kernel_rfl) (fun _ _ _ h => h) (Or.inl ⟨by rfl, ?hya5⟩) (by assumption) ?resta5
  case hya5 => (intro w hSw; (try dsimp only at hSw); go_simp; first | (with_reducible rfl) | (rw [if_neg (by omega)]) | skip)
  simp only [Act.put, List.setIfInBounds_toArray, List.set_cons_zero, List.set_cons_succ]
  refine wpAnyH_ready (rs := [2]) (by kernel_rfl) (by simp) ?_
  refine AllReadyH.cons (o := { dst := some 5, op := Go.Op.call { callee := Go.Callee.value (Go.Operand.func 101), args := #[Go.Operand.tmp 4], argTypes := #[54] }, type := 9, pos := "law.go:40", after := #[{ on := 1, ground := Go.Ground.data }], guard := none }) rfl (fun K hK => ?_) AllReadyH.nil
  go_simp
  go_at_call 101; (with_reducible refine (H1.out _ hHeld.2.2).mono ?_); rintro e w2 ⟨rfl, hb1⟩; have HBW := hid (show Below w1.heap.size w1 w2 from (Below.drew (Below.refl w1.heap.size w1)).trans hb1)
  refine hK.out _ _ ?_ (fun hHeld => ?_)
  · (try dsimp only); exact keepG HS.out HBW.out HB1.out
  clear hK K
  try simp only [Act.put, List.setIfInBounds_toArray, List.set_cons_zero, List.set_cons_succ]
  refine wpAnyH_ready (rs := [5]) (by kernel_rfl) (by simp) ?_
  refine AllReadyH.cons (o := { dst := some 8, op := Go.Op.call { callee := Go.Callee.value (Go.Operand.func 101), args := #[Go.Operand.tmp 7], argTypes := #[54] }, type := 9, pos := "law.go:40", after := #[{ on := 4, ground := Go.Ground.data }, { on := 2, ground := Go.Ground.chain }], guard := none }) rfl (fun K hK => ?_) AllReadyH.nil
  go_simp
  go_at_call 101; (with_reducible refine (H2.out _ hHeld.2.2).mono ?_); rintro e w3 ⟨rfl, hb1⟩; have HBW := hid (HBW.out.trans (hb1.mono HBW.out.size)); obtain ⟨z0, z1, f0, f1⟩ := FZ.out _ HBW.out
  refine hK.out _ _ ?_ (fun hHeld => ?_)
  · (try dsimp only); exact keepG HS.out HBW.out HB1.out
  clear hK K
  try simp only [Act.put, List.setIfInBounds_toArray, List.set_cons_zero, List.set_cons_succ]
  refine wpAnyH_take (i := 6) (oi := { dst := some 9, op := Go.Op.build 44 #[(0, Go.Operand.tmp 5), (1, Go.Operand.tmp 8)], type := 44, pos := "law.go:40", after := #[{ on := 2, ground := Go.Ground.data }, { on := 5, ground := Go.Ground.data }], guard := none }) (v := ?_) rfl (by kernel_rfl) (by kernel_rfl) (by kernel_rfl) (fun _ _ _ h => h) (Or.inl ⟨by rfl, ?hya6⟩) (by assumption) ?resta6
  case hya6 => (intro w hSw; (try dsimp only at hSw); go_simp; first | (with_reducible rfl) | (rw [if_neg (by omega)]) | skip)
  simp only [Act.put, List.setIfInBounds_toArray, List.set_cons_zero, List.set_cons_succ]
  refine wpAnyH_ready (rs := [7]) (by kernel_rfl) (by simp) ?_
  refine AllReadyH.cons (o := { dst := none, op := Go.Op.store 44 (Go.Operand.tmp 2) (Go.Operand.tmp 9), type := 0, pos := "law.go:40", after := #[{ on := 6, ground := Go.Ground.data }, { on := 5, ground := Go.Ground.chain }, { on := 0, ground := Go.Ground.phase }, { on := 1, ground := Go.Ground.phase }, { on := 2, ground := Go.Ground.phase }, { on := 3, ground := Go.Ground.phase }, { on := 4, ground := Go.Ground.phase }, { on := 5, ground := Go.Ground.phase }, { on := 6, ground := Go.Ground.phase }], guard := none }) rfl (fun K hK => ?_) AllReadyH.nil
  go_simp
  refine hK.out _ _ ?_ (fun hHeld => ?_)
  · (try dsimp only); exact ⟨(World.cell?_setCell_far _ _ _ _ (by simp)).trans ((World.cell?_setCell_far _ _ _ _ (by simp)).trans hHeld.1), (World.cell?_setCell_far _ _ _ _ (by simp)).trans ((World.cell?_setCell_far _ _ _ _ (by simp)).trans hHeld.2.1), (hHeld.2.2.setCell (p := ⟨w.heap.size + 1, 0, none⟩) (by simp) _).setCell (p := ⟨w.heap.size + 1, 1, none⟩) (by simp) _⟩
  clear hK K
  try simp only [Act.put, List.setIfInBounds_toArray, List.set_cons_zero, List.set_cons_succ]
  refine wpAnyH_done (by kernel_rfl) ?_ _
  refine NoPanic.normal ?_
  have HH := hid hHeld.2.2
  clear hHeld
  go_wp2
  refine bodyPost_ret (v := .agg #[.string (strOfNums l), .string (strOfNums m)]) ?_ rfl ⟨rfl, HH.out⟩
  simp [results, Tryd.results50, go_sem, z0, z1]
end Go.Proofs.YtiohiiekaofkbaaDoor
