/- Texts of this claim, as far as they are used here: C3, G0, K0, S4, C5, C4. -/
import Derived.Test.YtiohiiekaofkbaaGreatDoorZ00
import Derived.Laws.BitsAllLaws
import Derived.Laws.AppendOwnNone
import Derived.Deep.AppendLies
import Derived.Defers
import Derived.Recover
import Derived.Laws.Pointers
/- The cursor: the next number without a sign. -/
namespace Go.Proofs.YtiohiiekaofkbaaGreatDoor
set_option linter.unusedVariables false
set_option linter.unusedSimpArgs false
open Go.RowKit
def uM (rg : Int → List (Int × Int)) (l : List Int) (lim : Int) : Nat → Int → Int → Except (Int × Int) (Int × Int)
  | 0, v, p => .ok (v, p)
  | k + 1, v, p => match nextR l p lim with
    | .error s => .error s
    | .ok x =>
      if 128 ≤ x then if k ≠ 0 ∧ openN rg (p + 1) lim (v + x % 128 * 128 ^ (4 - k)) (7 * (5 - (k : Int))) k = true then uM rg l lim k (v + x % 128 * 128 ^ (4 - k)) (p + 1) else .error (p, 2)
      else if (k ≠ 0 ∨ x ≤ 15) ∧ fitsI (v + x % 128 * 128 ^ (4 - k)) 32 0 32 (rg (rest (p + 1) lim)) = true then .ok (v + x % 128 * 128 ^ (4 - k), p + 1) else .error (p, 2)
def uRes (r : Except (Int × Int) (Int × Int)) : Res := match r with | .ok (v, p') => .ok (.int .u32 v, p') | .error s => .error s
theorem or_digit (v d : Int) (i : Nat) (hi : i ≤ 4) (hv0 : 0 ≤ v) (hv : v < 128 ^ i) (hd : 0 ≤ d) (hd1 : d < 128) : bits .or .u64 v (IntKind.u64.wrap (d * 2 ^ (7 * i))) = v + d * 128 ^ i := by
  have key : ∀ (a q k : Nat), a < 2 ^ k → a ||| (q * 2 ^ k) = a + q * 2 ^ k := by
    intro a q k h
    have := Nat.shiftLeft_add_eq_or_of_lt h q
    rw [Nat.shiftLeft_eq] at this
    rw [Nat.or_comm, ← this, Nat.add_comm]
  have main : ∀ (k : Nat) (q : Int), 0 ≤ q → v < 2 ^ k → IntKind.u64.wrap (d * 2 ^ (7 * i)) = q * 2 ^ k → q * 2 ^ k < 18446744073709551616 → v < 18446744073709551616 → bits .or .u64 v (IntKind.u64.wrap (d * 2 ^ (7 * i))) = v + q * 2 ^ k := by
    intro k q hq h1 h2 h3 h4
    obtain ⟨a, rfl⟩ : ∃ a : Nat, v = a := ⟨v.toNat, by omega⟩
    obtain ⟨q', rfl⟩ : ∃ a : Nat, q = a := ⟨q.toNat, by omega⟩
    have e : ((q' : Nat) : Int) * 2 ^ k = ((q' * 2 ^ k : Nat) : Int) := by push_cast; rfl
    rw [h2, e, u64_or_nat _ _ (by omega) (by rw [e] at h3; omega), key a q' k (by exact_mod_cast h1)]
    push_cast; rfl
  match i, hi with
  | 0, _ => rw [main 0 d hd (by simpa using hv) (by rw [wu]; simp; omega) (by omega) (by omega)]; simp
  | 1, _ => rw [main 7 d hd (by simpa using hv) (by rw [wu]; simp; omega) (by omega) (by omega)]; omega
  | 2, _ => rw [main 14 d hd (by simpa using hv) (by rw [wu]; simp; omega) (by omega) (by omega)]; omega
  | 3, _ => rw [main 21 d hd (by simpa using hv) (by rw [wu]; simp; omega) (by omega) (by omega)]; omega
  | 4, _ => rw [main 28 d hd (by simpa using hv) (by rw [wu]; simp; omega) (by omega) (by omega)]; omega
theorem digit_bd {v x : Int} {k : Nat} (hk : k ≤ 4) (hv : 0 ≤ v) (hv2 : v < 128 ^ (4 - k)) (hx : 0 ≤ x) : 0 ≤ v + x % 128 * 128 ^ (4 - k) ∧ v + x % 128 * 128 ^ (4 - k) < 128 ^ (5 - k) ∧ (2 : Int) ^ (7 * (5 - (k : Int))).toNat = 128 ^ (5 - k) := by
  match k, hk with
  | 0, _ => simp at *; omega
  | 1, _ => simp at *; omega
  | 2, _ => simp at *; omega
  | 3, _ => simp at *; omega
  | 4, _ => simp at *; omega
theorem wrap7 {i : Nat} (h : i ≤ 4) : IntKind.i64.wrap (7 * IntKind.i64.wrap ((i : Int) + 1)) = 7 * ((i : Int) + 1) := by
  have e : IntKind.i64.wrap ((i : Int) + 1) = (i : Int) + 1 := by rw [IntKind.wrap_i64]; omega
  rw [e, IntKind.wrap_i64]; omega
theorem wrap4 {i j : Nat} (h : i + j = 4) : IntKind.i64.wrap (4 - (i : Int)) = (j : Int) := by rw [IntKind.wrap_i64]; omega
theorem digit_i {v x : Int} {i j : Nat} (hij : i + j = 4) (hv : 0 ≤ v) (hv2 : v < 128 ^ i) (hx : 0 ≤ x) : 0 ≤ v + x % 128 * 128 ^ i ∧ v + x % 128 * 128 ^ i < 128 ^ (i + 1) ∧ (2 : Int) ^ (7 * ((i : Int) + 1)).toNat = 128 ^ (i + 1) := by
  have e3 : 4 - j = i := by omega
  have e1 : 5 - j = i + 1 := by omega
  have e4 : 7 * (5 - (j : Int)) = 7 * ((i : Int) + 1) := by omega
  have := digit_bd (k := j) (by omega) hv (by rw [e3]; exact hv2) hx
  rwa [e3, e1, e4] at this
theorem digit_32 {v x : Int} {k : Nat} (hk : k ≤ 4) (hv : 0 ≤ v) (hv2 : v < 128 ^ (4 - k)) (hx : 0 ≤ x) (h : k ≠ 0 ∨ x ≤ 15) : v + x % 128 * 128 ^ (4 - k) < 4294967296 := by
  match k, hk with
  | 0, _ => simp at *; omega
  | 1, _ => simp at *; omega
  | 2, _ => simp at *; omega
  | 3, _ => simp at *; omega
  | 4, _ => simp at *; omega
theorem digit_i32 {v x : Int} {i j : Nat} (hij : i + j = 4) (hv : 0 ≤ v) (hv2 : v < 128 ^ i) (hx : 0 ≤ x) (h : j ≠ 0 ∨ x ≤ 15) : v + x % 128 * 128 ^ i < 4294967296 := by
  have e3 : 4 - j = i := by omega
  have := digit_32 (k := j) (by omega) hv (by rw [e3]; exact hv2) hx h
  rwa [e3] at this
theorem next_mem {l : List Int} {p lim x : Int} (h : nextR l p lim = .ok x) : x ∈ l ∧ 0 < rest p lim := by
  unfold nextR at h
  split at h
  · simp at h
  · split at h
    · rename_i y hy
      simp at h; subst h
      exact ⟨List.mem_of_getElem? hy, by omega⟩
    · simp at h
theorem and127 (x : Int) (h0 : 0 ≤ x) (h : x < 256) : bits .and .u8 x 127 = x % 128 := by
  obtain ⟨n, rfl⟩ : ∃ n : Nat, x = n := ⟨x.toNat, by omega⟩
  have hn : n < 256 := by omega
  have key : ∀ m : Fin 256, bits .and .u8 ((m.val : Nat) : Int) 127 = ((m.val : Nat) : Int) % 128 := by decide +kernel
  exact key ⟨n, hn⟩
theorem uM_step {rg : Int → List (Int × Int)} {l : List Int} {lim v q x : Int} {i j : Nat} (hij : i + j = 4) (hx : nextR l q lim = .ok x) :
    uM rg l lim (5 - i) v q = if 128 ≤ x then if j ≠ 0 ∧ openN rg (q + 1) lim (v + x % 128 * 128 ^ i) (7 * ((i : Int) + 1)) j = true then uM rg l lim (5 - (i + 1)) (v + x % 128 * 128 ^ i) (q + 1) else .error (q, 2)
      else if (j ≠ 0 ∨ x ≤ 15) ∧ fitsI (v + x % 128 * 128 ^ i) 32 0 32 (rg (rest (q + 1) lim)) = true then .ok (v + x % 128 * 128 ^ i, q + 1) else .error (q, 2) := by
  have e1 : 5 - i = j + 1 := by omega
  have e2 : 5 - (i + 1) = j := by omega
  have e3 : 4 - j = i := by omega
  have e4 : 7 * (5 - (j : Int)) = 7 * ((i : Int) + 1) := by omega
  rw [e1, e2, uM, hx]
  simp only [e3, e4]
theorem uM_stop {rg : Int → List (Int × Int)} {l : List Int} {lim v q : Int} {i : Nat} {s : Int × Int} (hij : i ≤ 4) (hx : nextR l q lim = .error s) : uM rg l lim (5 - i) v q = .error s := by
  have e1 : 5 - i = (4 - i) + 1 := by omega
  rw [e1, uM, hx]
set_option maxHeartbeats 8000000 in
theorem uint_walk (g : Nat) (A : Option Addr) (c : Nat) (l : List Int) (p lim : Int) (w : World) (k : Nat) (caps : Array Value) (rg : Int → List (Int × Int))
    (h : CB g A c l p lim w) (hw : Wants g k caps w rg) :
    Calls Tryz.prog 41 #[.pointer (some ⟨g, 0, none⟩), .func (.func k) #[] caps] w (Post g A c l lim w (uRes (uM rg l lim 5 0 p))) := by
  have HC := hid h
  have HW := hid hw
  have HE : ∀ (args : Array Value) (w : World), (callFunc k args).run Tryz.prog w = .ok (.enter k args) w := hw.ent
  have hl := h.hl
  have l1 := h.l2
  clear h hw
  go_enter Tryz.func41, Tryz.ntmps41
  go_wp2
  go_loopw [5, 8] (fun v5 v8 wr => ∃ (i : Nat) (v q : Int), v8 = .int .i64 i ∧ v5 = .int .u64 v ∧ i ≤ 4 ∧ 0 ≤ v ∧ Hid (v < 128 ^ i) ∧ Hid (uM rg l lim 5 0 p = uM rg l lim (5 - i) v q) ∧ Hid (CB g A c l q lim wr) ∧ Hid (Rd g w wr)) (fun _ v8 _ => 5 - (intOf v8).toNat)
  case atStart => exact ⟨0, 0, p, by go_num, rfl, by omega, by omega, hid (by decide), hid rfl, hid HC.out, hid (grown_of_below (Below.refl _ _) _)⟩
  case round =>
    obtain ⟨i, v, q, rfl, rfl, i4, v0, HV, HU, HCr, HR⟩ := hrel
    obtain ⟨j, hij⟩ : ∃ j, i + j = 4 := ⟨4 - i, by omega⟩
    have HN := hid (next_walk g A c l q lim wr HCr.out)
    rcases hx : nextR l q lim with s | x
    · have HF := hid (HU.out.trans (uM_stop i4 hx))
      have HN2 := HN
      rw [show nextV l q lim = .error s by rw [nextV, hx]] at HN2
      clear hx HN
      go_wp2_with (first | (go_at_call 59; refine HN2.out.mono ?_; rintro e w1 ⟨rfl, HG⟩))
      refine ⟨rfl, ?_⟩
      show Post g A c l lim w (uRes (uM rg l lim 5 0 p)) _ _
      rw [HF.out]
      exact ⟨rfl, HR.out.trans HG⟩
    · obtain ⟨hm, hr0⟩ := next_mem hx
      obtain ⟨x0, x1⟩ := HCr.out.b8 x hm
      have HF := hid (HU.out.trans (uM_step hij hx))
      have HN2 := HN
      rw [show nextV l q lim = .ok (.int .u8 x, q + 1) by rw [nextV, hx]] at HN2
      clear hx HN hm
      have hand := and127 x x0 x1
      have HO := hid (or_digit v (x % 128) i i4 v0 HV.out (by omega) (by omega))
      by_cases h128 : 128 ≤ x
      · go_upto_region 8 with (first | (go_at_call 59; refine HN2.out.mono ?_; rintro e w1 ⟨rfl, HC1, HG⟩; have HC1 := hid HC1))
        have p0 := HCr.out.p0
        have p1 := HC1.out.p1
        have hwq : IntKind.i64.wrap q = q := by rw [IntKind.wrap_i64]; omega
        have HR1 := hid (rest_b HC1.out)
        have HW1 := hid (HW.out.rd (HR.out.trans HG))
        have HW7 := hid (wrap7 i4)
        have HW4 := hid (wrap4 hij)
        have HD := hid (digit_i hij v0 HV.out x0)
        have HD32 := hid (digit_i32 (x := x) hij v0 HV.out x0)
        obtain ⟨c0, c1, c2, f1, f2⟩ := HC1.out.cu
        have S0 : w1.cell? ⟨g, 0, none⟩ = some (.slice A l.length c) ∧ w1.cell? ⟨g, 1, none⟩ = some (.int .i64 (q + 1)) ∧ w1.cell? ⟨g, 2, none⟩ = some (.int .i64 lim) ∧ Below w1.heap.size w1 w1 ∧ w1.heap.size ≤ w1.heap.size := ⟨c0, c1, c2, Below.refl _ _, Nat.le_refl _⟩
        clear c0 c1 c2
        by_cases hj : j = 0
        · have HF2 := hid (HF.out.trans (by rw [if_pos h128, if_neg (by rw [hj]; simp)]))
          have hi4 : ¬ (i : Int) < 4 := by omega
          clear HF
          refine wp_region_held_drew (S := (fun W => W.cell? ⟨g, 0, none⟩ = some (.slice A l.length c) ∧ W.cell? ⟨g, 1, none⟩ = some (.int .i64 (q + 1)) ∧ W.cell? ⟨g, 2, none⟩ = some (.int .i64 lim) ∧ Below w1.heap.size w1 W ∧ w1.heap.size ≤ W.heap.size)) (by kernel_rfl) ?hSa1 (fun hHeld => ?goa1)
          case hSa1 => first | exact hHeld | exact keepN hHeld (by assumption) | exact keepN hHeld (below_drewN _ _) | exact keepN S0 (below_drewN w1 _) | exact keepN S0 (Below.drew (Below.refl _ _))
          refine tk 0 ⟨some 23, .move (.tmp 6), 3, "cursor.go:131", #[], none⟩ rfl ?_
          refine tk 1 ⟨some 24, .binOp .lss 3 (.tmp 23) (.const (.int .i64 4)) 3, 4, "cursor.go:131", #[⟨0, .data⟩], none⟩ rfl ?_
          refine tk 2 ⟨some 25, .move (.tmp 24), 4, "cursor.go:131", #[⟨1, .data⟩], none⟩ rfl ?_
          refine tkn 3 ⟨some 26, .move (.tmp 0), 73, "cursor.go:131", #[⟨2, .guard⟩], some (2, true)⟩ rfl ?_
          refine tkn 4 ⟨some 27, .move (.tmp 1), 196, "cursor.go:131", #[⟨2, .guard⟩], some (2, true)⟩ rfl ?_
          refine tkn 5 ⟨some 28, .move (.tmp 5), 166, "cursor.go:131", #[⟨2, .guard⟩], some (2, true)⟩ rfl ?_
          refine tkn 6 ⟨some 29, .move (.tmp 6), 3, "cursor.go:131", #[⟨2, .guard⟩], some (2, true)⟩ rfl ?_
          refine tkn 7 ⟨some 30, .binOp .add 3 (.tmp 29) (.const (.int .i64 1)) 3, 3, "cursor.go:131", #[⟨6, .data⟩, ⟨2, .guard⟩], some (2, true)⟩ rfl ?_
          refine tkn 8 ⟨some 31, .binOp .mul 3 (.const (.int .i64 7)) (.tmp 30) 3, 3, "cursor.go:131", #[⟨7, .data⟩, ⟨2, .guard⟩], some (2, true)⟩ rfl ?_
          refine tkn 9 ⟨some 32, .move (.tmp 6), 3, "cursor.go:131", #[⟨2, .guard⟩], some (2, true)⟩ rfl ?_
          refine tkn 10 ⟨some 33, .binOp .sub 3 (.const (.int .i64 4)) (.tmp 32) 3, 3, "cursor.go:131", #[⟨9, .data⟩, ⟨2, .guard⟩], some (2, true)⟩ rfl ?_
          refine tkn 11 ⟨some 34, .call { callee := .value (.func 60), args := #[.tmp 26, .tmp 27, .tmp 28, .tmp 31, .tmp 33], argTypes := #[73, 196, 166, 3, 3] }, 4, "cursor.go:131", #[⟨3, .data⟩, ⟨4, .data⟩, ⟨5, .data⟩, ⟨8, .data⟩, ⟨10, .data⟩, ⟨2, .chain⟩, ⟨2, .guard⟩], some (2, true)⟩ rfl ?_
          refine tk 12 ⟨some 35, .pick (.tmp 25) (.tmp 34) (.const (.bool false)), 4, "cursor.go:131", #[⟨2, .data⟩, ⟨11, .data⟩], none⟩ rfl ?_
          refine tk 13 ⟨some 36, .move (.tmp 0), 73, "cursor.go:131", #[], none⟩ rfl ?_
          refine tk 14 ⟨some 37, .nilCheck (.tmp 36), 0, "cursor.go:131", #[⟨13, .data⟩], none⟩ rfl ?_
          refine tk 15 ⟨some 38, .fieldAddr 156 (.tmp 37) 1, 0, "cursor.go:131", #[⟨14, .data⟩], none⟩ rfl ?_
          refine tk 16 ⟨some 39, .load 3 (.tmp 38), 3, "cursor.go:131", #[⟨15, .data⟩], none⟩ rfl ?_
          refine tk 17 ⟨some 40, .binOp .sub 3 (.tmp 39) (.const (.int .i64 1)) 3, 3, "cursor.go:131", #[⟨16, .data⟩], none⟩ rfl ?_
          refine wpAnyH_ready (rs := [18]) (by kernel_rfl) (by simp) ?_
          refine AllReadyH.cons (o := ⟨some 41, .call { callee := .value (.func 38), args := #[.tmp 35, .tmp 40], argTypes := #[4, 3] }, 0, "cursor.go:131", #[⟨12, .data⟩, ⟨17, .data⟩, ⟨11, .chain⟩], none⟩) rfl (fun K hK => ?_) AllReadyH.nil
          go_simp
          (try rw [hwq]); go_at_call 38; (with_reducible refine (need_no q _).mono ?_); rintro e w3 ⟨rfl, rfl⟩; refine ⟨rfl, ?_⟩; show Post g A c l lim w (uRes (uM rg l lim 5 0 p)) _ _; rw [HF2.out]; exact ⟨rfl, HR.out.trans (HG.trans (grown_of_below hHeld.2.2.2.1 _))⟩
        · have hi4 : (i : Int) < 4 := by omega
          have h7 : (i : Int) + 1 ≤ 4 := by omega
          rcases ho : openN rg (q + 1) lim (v + x % 128 * 128 ^ i) (7 * ((i : Int) + 1)) j with _ | _
          · have HF2 := hid (HF.out.trans (by rw [if_pos h128, if_neg (by rw [ho]; simp)]))
            have HOO := hid ho
            clear HF ho
            refine wp_region_held_drew (S := (fun W => W.cell? ⟨g, 0, none⟩ = some (.slice A l.length c) ∧ W.cell? ⟨g, 1, none⟩ = some (.int .i64 (q + 1)) ∧ W.cell? ⟨g, 2, none⟩ = some (.int .i64 lim) ∧ Below w1.heap.size w1 W ∧ w1.heap.size ≤ W.heap.size)) (by kernel_rfl) ?hSd1 (fun hHeld => ?god1)
            case hSd1 => first | exact hHeld | exact keepN hHeld (by assumption) | exact keepN hHeld (below_drewN _ _) | exact keepN S0 (below_drewN w1 _) | exact keepN S0 (Below.drew (Below.refl _ _))
            refine tk 0 ⟨some 23, .move (.tmp 6), 3, "cursor.go:131", #[], none⟩ rfl ?_
            refine tk 1 ⟨some 24, .binOp .lss 3 (.tmp 23) (.const (.int .i64 4)) 3, 4, "cursor.go:131", #[⟨0, .data⟩], none⟩ rfl ?_
            refine tk 2 ⟨some 25, .move (.tmp 24), 4, "cursor.go:131", #[⟨1, .data⟩], none⟩ rfl ?_
            refine tk 3 ⟨some 26, .move (.tmp 0), 73, "cursor.go:131", #[⟨2, .guard⟩], some (2, true)⟩ rfl ?_
            refine tk 4 ⟨some 27, .move (.tmp 1), 196, "cursor.go:131", #[⟨2, .guard⟩], some (2, true)⟩ rfl ?_
            refine tk 5 ⟨some 28, .move (.tmp 5), 166, "cursor.go:131", #[⟨2, .guard⟩], some (2, true)⟩ rfl ?_
            refine tk 6 ⟨some 29, .move (.tmp 6), 3, "cursor.go:131", #[⟨2, .guard⟩], some (2, true)⟩ rfl ?_
            refine tk 7 ⟨some 30, .binOp .add 3 (.tmp 29) (.const (.int .i64 1)) 3, 3, "cursor.go:131", #[⟨6, .data⟩, ⟨2, .guard⟩], some (2, true)⟩ rfl ?_
            refine tk 8 ⟨some 31, .binOp .mul 3 (.const (.int .i64 7)) (.tmp 30) 3, 3, "cursor.go:131", #[⟨7, .data⟩, ⟨2, .guard⟩], some (2, true)⟩ rfl ?_
            refine tk 9 ⟨some 32, .move (.tmp 6), 3, "cursor.go:131", #[⟨2, .guard⟩], some (2, true)⟩ rfl ?_
            refine tk 10 ⟨some 33, .binOp .sub 3 (.const (.int .i64 4)) (.tmp 32) 3, 3, "cursor.go:131", #[⟨9, .data⟩, ⟨2, .guard⟩], some (2, true)⟩ rfl ?_
            refine tk 13 ⟨some 36, .move (.tmp 0), 73, "cursor.go:131", #[], none⟩ rfl ?_
            refine tk 14 ⟨some 37, .nilCheck (.tmp 36), 0, "cursor.go:131", #[⟨13, .data⟩], none⟩ rfl ?_
            refine tk 15 ⟨some 38, .fieldAddr 156 (.tmp 37) 1, 0, "cursor.go:131", #[⟨14, .data⟩], none⟩ rfl ?_
            refine tk 16 ⟨some 39, .load 3 (.tmp 38), 3, "cursor.go:131", #[⟨15, .data⟩], none⟩ rfl ?_
            refine tk 17 ⟨some 40, .binOp .sub 3 (.tmp 39) (.const (.int .i64 1)) 3, 3, "cursor.go:131", #[⟨16, .data⟩], none⟩ rfl ?_
            refine wpAnyH_ready (rs := [11]) (by kernel_rfl) (by simp) ?_
            refine AllReadyH.cons (o := ⟨some 34, .call { callee := .value (.func 60), args := #[.tmp 26, .tmp 27, .tmp 28, .tmp 31, .tmp 33], argTypes := #[73, 196, 166, 3, 3] }, 4, "cursor.go:131", #[⟨3, .data⟩, ⟨4, .data⟩, ⟨5, .data⟩, ⟨8, .data⟩, ⟨10, .data⟩, ⟨2, .chain⟩, ⟨2, .guard⟩], some (2, true)⟩) rfl (fun K hK => ?_) AllReadyH.nil
            go_simp
            rw [HO.out, HW7.out, HW4.out]; go_at_call 60; (with_reducible refine (open_walk g A c l (q + 1) lim _ k caps rg _ _ j (HC1.out.below hHeld.2.2.2.1) (HW1.out.rd (grown_of_below hHeld.2.2.2.1 _)) HD.out.1 (by rw [HD.out.2.2]; exact HD.out.2.1) (by omega) (by omega) (by omega)).mono ?_); rintro e w4 ⟨he, hb4⟩; rw [HOO.out] at he; subst he
            refine hK.out _ _ ?_ (fun hHeld => ?_)
            · (try dsimp only); first | exact hHeld | exact keepN hHeld (by assumption) | exact keepN hHeld (below_drewN _ _) | exact keepN S0 (below_drewN w1 _) | exact keepN S0 (Below.drew (Below.refl _ _))
            clear hK K
            try simp only [Act.put, List.setIfInBounds_toArray, List.set_cons_zero, List.set_cons_succ]
            refine tk 12 ⟨some 35, .pick (.tmp 25) (.tmp 34) (.const (.bool false)), 4, "cursor.go:131", #[⟨2, .data⟩, ⟨11, .data⟩], none⟩ rfl ?_
            refine wpAnyH_ready (rs := [18]) (by kernel_rfl) (by simp) ?_
            refine AllReadyH.cons (o := ⟨some 41, .call { callee := .value (.func 38), args := #[.tmp 35, .tmp 40], argTypes := #[4, 3] }, 0, "cursor.go:131", #[⟨12, .data⟩, ⟨17, .data⟩, ⟨11, .chain⟩], none⟩) rfl (fun K hK => ?_) AllReadyH.nil
            go_simp
            (try rw [hwq]); go_at_call 38; (with_reducible refine (need_no q _).mono ?_); rintro e w3 ⟨rfl, rfl⟩; refine ⟨rfl, ?_⟩; show Post g A c l lim w (uRes (uM rg l lim 5 0 p)) _ _; rw [HF2.out]; exact ⟨rfl, HR.out.trans (HG.trans (grown_of_below hHeld.2.2.2.1 _))⟩
          · have HF2 := hid (HF.out.trans (by rw [if_pos h128, if_pos ⟨hj, ho⟩]))
            have HOO := hid ho
            clear HF ho
            refine wp_region_noPanic ?_
            refine wp_region_held_drew (S := (fun W => W.cell? ⟨g, 0, none⟩ = some (.slice A l.length c) ∧ W.cell? ⟨g, 1, none⟩ = some (.int .i64 (q + 1)) ∧ W.cell? ⟨g, 2, none⟩ = some (.int .i64 lim) ∧ Below w1.heap.size w1 W ∧ w1.heap.size ≤ W.heap.size)) (by kernel_rfl) ?hSb1 (fun hHeld => ?gob1)
            case hSb1 => first | exact hHeld | exact keepN hHeld (by assumption) | exact keepN hHeld (below_drewN _ _) | exact keepN S0 (below_drewN w1 _) | exact keepN S0 (Below.drew (Below.refl _ _))
            refine tk 0 ⟨some 23, .move (.tmp 6), 3, "cursor.go:131", #[], none⟩ rfl ?_
            refine tk 1 ⟨some 24, .binOp .lss 3 (.tmp 23) (.const (.int .i64 4)) 3, 4, "cursor.go:131", #[⟨0, .data⟩], none⟩ rfl ?_
            refine tk 2 ⟨some 25, .move (.tmp 24), 4, "cursor.go:131", #[⟨1, .data⟩], none⟩ rfl ?_
            refine tk 3 ⟨some 26, .move (.tmp 0), 73, "cursor.go:131", #[⟨2, .guard⟩], some (2, true)⟩ rfl ?_
            refine tk 4 ⟨some 27, .move (.tmp 1), 196, "cursor.go:131", #[⟨2, .guard⟩], some (2, true)⟩ rfl ?_
            refine tk 5 ⟨some 28, .move (.tmp 5), 166, "cursor.go:131", #[⟨2, .guard⟩], some (2, true)⟩ rfl ?_
            refine tk 6 ⟨some 29, .move (.tmp 6), 3, "cursor.go:131", #[⟨2, .guard⟩], some (2, true)⟩ rfl ?_
            refine tk 7 ⟨some 30, .binOp .add 3 (.tmp 29) (.const (.int .i64 1)) 3, 3, "cursor.go:131", #[⟨6, .data⟩, ⟨2, .guard⟩], some (2, true)⟩ rfl ?_
            refine tk 8 ⟨some 31, .binOp .mul 3 (.const (.int .i64 7)) (.tmp 30) 3, 3, "cursor.go:131", #[⟨7, .data⟩, ⟨2, .guard⟩], some (2, true)⟩ rfl ?_
            refine tk 9 ⟨some 32, .move (.tmp 6), 3, "cursor.go:131", #[⟨2, .guard⟩], some (2, true)⟩ rfl ?_
            refine tk 10 ⟨some 33, .binOp .sub 3 (.const (.int .i64 4)) (.tmp 32) 3, 3, "cursor.go:131", #[⟨9, .data⟩, ⟨2, .guard⟩], some (2, true)⟩ rfl ?_
            refine tk 13 ⟨some 36, .move (.tmp 0), 73, "cursor.go:131", #[], none⟩ rfl ?_
            refine tk 14 ⟨some 37, .nilCheck (.tmp 36), 0, "cursor.go:131", #[⟨13, .data⟩], none⟩ rfl ?_
            refine tk 15 ⟨some 38, .fieldAddr 156 (.tmp 37) 1, 0, "cursor.go:131", #[⟨14, .data⟩], none⟩ rfl ?_
            refine tk 16 ⟨some 39, .load 3 (.tmp 38), 3, "cursor.go:131", #[⟨15, .data⟩], none⟩ rfl ?_
            refine tk 17 ⟨some 40, .binOp .sub 3 (.tmp 39) (.const (.int .i64 1)) 3, 3, "cursor.go:131", #[⟨16, .data⟩], none⟩ rfl ?_
            refine wpAnyH_ready (rs := [11]) (by kernel_rfl) (by simp) ?_
            refine AllReadyH.cons (o := ⟨some 34, .call { callee := .value (.func 60), args := #[.tmp 26, .tmp 27, .tmp 28, .tmp 31, .tmp 33], argTypes := #[73, 196, 166, 3, 3] }, 4, "cursor.go:131", #[⟨3, .data⟩, ⟨4, .data⟩, ⟨5, .data⟩, ⟨8, .data⟩, ⟨10, .data⟩, ⟨2, .chain⟩, ⟨2, .guard⟩], some (2, true)⟩) rfl (fun K hK => ?_) AllReadyH.nil
            go_simp
            rw [HO.out, HW7.out, HW4.out]; go_at_call 60; (with_reducible refine (open_walk g A c l (q + 1) lim _ k caps rg _ _ j (HC1.out.below hHeld.2.2.2.1) (HW1.out.rd (grown_of_below hHeld.2.2.2.1 _)) HD.out.1 (by rw [HD.out.2.2]; exact HD.out.2.1) (by omega) (by omega) (by omega)).mono ?_); rintro e w4 ⟨he, hb4⟩; rw [HOO.out] at he; subst he
            refine hK.out _ _ ?_ (fun hHeld => ?_)
            · (try dsimp only); first | exact hHeld | exact keepN hHeld (by assumption) | exact keepN hHeld (below_drewN _ _) | exact keepN S0 (below_drewN w1 _) | exact keepN S0 (Below.drew (Below.refl _ _))
            clear hK K
            try simp only [Act.put, List.setIfInBounds_toArray, List.set_cons_zero, List.set_cons_succ]
            refine tk 12 ⟨some 35, .pick (.tmp 25) (.tmp 34) (.const (.bool false)), 4, "cursor.go:131", #[⟨2, .data⟩, ⟨11, .data⟩], none⟩ rfl ?_
            refine wpAnyH_ready (rs := [18]) (by kernel_rfl) (by simp) ?_
            refine AllReadyH.cons (o := ⟨some 41, .call { callee := .value (.func 38), args := #[.tmp 35, .tmp 40], argTypes := #[4, 3] }, 0, "cursor.go:131", #[⟨12, .data⟩, ⟨17, .data⟩, ⟨11, .chain⟩], none⟩) rfl (fun K hK => ?_) AllReadyH.nil
            go_simp
            (try rw [hwq]); go_at_call 38; (with_reducible refine (need_yes q _).mono ?_); rintro e w3 ⟨rfl, rfl⟩
            refine hK.out _ _ ?_ (fun hHeld => ?_)
            · (try dsimp only); first | exact hHeld | exact keepN hHeld (by assumption) | exact keepN hHeld (below_drewN _ _) | exact keepN S0 (below_drewN w1 _) | exact keepN S0 (Below.drew (Below.refl _ _))
            clear hK K
            try simp only [Act.put, List.setIfInBounds_toArray, List.set_cons_zero, List.set_cons_succ]
            refine wpAnyH_done (by kernel_rfl) ?_ _
            refine NoPanic.normal ?_
            go_wp2_with fail
            go_roundw
            case rel => exact ⟨i + 1, _, q + 1, by go_num, rfl, by omega, HD.out.1, hid HD.out.2.1, hid HF2.out, hid (HC1.out.below hHeld.2.2.2.1), hid (HR.out.trans (HG.trans (grown_of_below hHeld.2.2.2.1 _)))⟩
            case measure => simp [intOf]; omega
      · go_upto_region 9 with (first | (go_at_call 59; refine HN2.out.mono ?_; rintro e w1 ⟨rfl, HC1, HG⟩; have HC1 := hid HC1))
        have p0 := HCr.out.p0
        have p1 := HC1.out.p1
        have hwq : IntKind.i64.wrap q = q := by rw [IntKind.wrap_i64]; omega
        have HR1 := hid (rest_b HC1.out)
        have HW1 := hid (HW.out.rd (HR.out.trans HG))
        have HW7 := hid (wrap7 i4)
        have HW4 := hid (wrap4 hij)
        have HD := hid (digit_i hij v0 HV.out x0)
        have HD32 := hid (digit_i32 (x := x) hij v0 HV.out x0)
        obtain ⟨c0, c1, c2, f1, f2⟩ := HC1.out.cu
        have S0 : w1.cell? ⟨g, 0, none⟩ = some (.slice A l.length c) ∧ w1.cell? ⟨g, 1, none⟩ = some (.int .i64 (q + 1)) ∧ w1.cell? ⟨g, 2, none⟩ = some (.int .i64 lim) ∧ Below w1.heap.size w1 w1 ∧ w1.heap.size ≤ w1.heap.size := ⟨c0, c1, c2, Below.refl _ _, Nat.le_refl _⟩
        clear c0 c1 c2
        have HRR := hid (show 0 ≤ rest (q + 1) lim ∧ rest (q + 1) lim ≤ 1099511627776 by have := HC1.out.l2; unfold rest at hr0 ⊢; split <;> (split at hr0) <;> omega)
        have h128' : ¬ 128 ≤ x := by omega
        by_cases hj : j = 0
        · by_cases h15 : x ≤ 15
          · have HB32 := hid (show v + x % 128 * 128 ^ i < 2 ^ (32 : Int).toNat from HD32.out (.inr h15))
            have hi4 : ¬ (i : Int) < 4 := by omega
            rcases ho : fitsI (v + x % 128 * 128 ^ i) 32 0 32 (rg (rest (q + 1) lim)) with _ | _
            · have HF2 := hid (HF.out.trans (by rw [if_neg h128', if_neg (by rw [ho]; simp)]))
              have HOO := hid ho
              clear HF ho
              refine wp_region_held_drew (S := (fun W => W.cell? ⟨g, 0, none⟩ = some (.slice A l.length c) ∧ W.cell? ⟨g, 1, none⟩ = some (.int .i64 (q + 1)) ∧ W.cell? ⟨g, 2, none⟩ = some (.int .i64 lim) ∧ Below w1.heap.size w1 W ∧ w1.heap.size ≤ W.heap.size)) (by kernel_rfl) ?hSe1 (fun hHeld => ?goe1)
              case hSe1 => first | exact hHeld | exact keepN hHeld (by assumption) | exact keepN hHeld (below_drewN _ _) | exact keepN S0 (below_drewN w1 _) | exact keepN S0 (Below.drew (Below.refl _ _))
              refine tk 0 ⟨some 42, .move (.tmp 6), 3, "cursor.go:134", #[], none⟩ rfl ?_
              refine tk 1 ⟨some 43, .binOp .lss 3 (.tmp 42) (.const (.int .i64 4)) 3, 4, "cursor.go:134", #[⟨0, .data⟩], none⟩ rfl ?_
              refine tk 2 ⟨some 44, .move (.tmp 43), 4, "cursor.go:134", #[⟨1, .data⟩], none⟩ rfl ?_
              refine tk 3 ⟨some 45, .move (.tmp 7), 5, "cursor.go:134", #[⟨2, .guard⟩], some (2, false)⟩ rfl ?_
              refine tk 4 ⟨some 46, .binOp .leq 5 (.tmp 45) (.const (.int .u8 15)) 5, 4, "cursor.go:134", #[⟨3, .data⟩, ⟨2, .guard⟩], some (2, false)⟩ rfl ?_
              refine tk 5 ⟨some 47, .pick (.tmp 44) (.const (.bool true)) (.tmp 46), 4, "cursor.go:134", #[⟨2, .data⟩, ⟨4, .data⟩], none⟩ rfl ?_
              refine tk 6 ⟨some 48, .move (.tmp 47), 4, "cursor.go:134", #[⟨5, .data⟩, ⟨2, .chain⟩], none⟩ rfl ?_
              refine tk 7 ⟨some 49, .move (.tmp 1), 196, "cursor.go:134", #[⟨6, .guard⟩], some (6, true)⟩ rfl ?_
              refine tk 8 ⟨some 50, .move (.tmp 0), 73, "cursor.go:134", #[⟨6, .guard⟩], some (6, true)⟩ rfl ?_
              refine tk 11 ⟨some 53, .move (.tmp 5), 166, "cursor.go:134", #[⟨6, .guard⟩], some (6, true)⟩ rfl ?_
              refine tk 14 ⟨some 56, .move (.tmp 0), 73, "cursor.go:134", #[], none⟩ rfl ?_
              refine tk 15 ⟨some 57, .nilCheck (.tmp 56), 0, "cursor.go:134", #[⟨14, .data⟩], none⟩ rfl ?_
              refine tk 16 ⟨some 58, .fieldAddr 156 (.tmp 57) 1, 0, "cursor.go:134", #[⟨15, .data⟩], none⟩ rfl ?_
              refine tk 17 ⟨some 59, .load 3 (.tmp 58), 3, "cursor.go:134", #[⟨16, .data⟩], none⟩ rfl ?_
              refine tk 18 ⟨some 60, .binOp .sub 3 (.tmp 59) (.const (.int .i64 1)) 3, 3, "cursor.go:134", #[⟨17, .data⟩], none⟩ rfl ?_
              refine wpAnyH_ready (rs := [9]) (by kernel_rfl) (by simp) ?_
              refine AllReadyH.cons (o := ⟨some 51, .call { callee := .value (.func 16), args := #[.tmp 50], argTypes := #[73] }, 3, "cursor.go:134", #[⟨8, .data⟩, ⟨6, .chain⟩, ⟨6, .guard⟩], some (6, true)⟩) rfl (fun K hK => ?_) AllReadyH.nil
              go_simp
              go_at_call 16; (with_reducible refine (HR1.out _ hHeld.2.2.2.1).mono ?_); rintro e w2 ⟨rfl, hb2⟩
              refine hK.out _ _ ?_ (fun hHeld => ?_)
              · (try dsimp only); first | exact hHeld | exact keepN hHeld (by assumption) | exact keepN hHeld (below_drewN _ _) | exact keepN S0 (below_drewN w1 _) | exact keepN S0 (Below.drew (Below.refl _ _))
              clear hK K
              try simp only [Act.put, List.setIfInBounds_toArray, List.set_cons_zero, List.set_cons_succ]
              refine wpAnyH_ready (rs := [10]) (by kernel_rfl) (by simp) ?_
              refine AllReadyH.cons (o := ⟨some 52, .call { callee := .value (.tmp 49), args := #[.tmp 51], argTypes := #[3] }, 165, "cursor.go:134", #[⟨7, .data⟩, ⟨9, .data⟩, ⟨9, .chain⟩, ⟨6, .guard⟩], some (6, true)⟩) rfl (fun K hK => ?_) AllReadyH.nil
              go_simp
              (with_reducible refine (HW1.out.call (rest (q + 1) lim) HRR.out.1 HRR.out.2 _ (grown_of_below hHeld.2.2.2.1 _)).mono ?_); rintro e w4 ⟨A4, c4, rfl, hR4, hb4⟩; have HR4 := hid hR4; clear hR4
              refine hK.out _ _ ?_ (fun hHeld => ?_)
              · (try dsimp only); first | exact hHeld | exact keepN hHeld (by assumption) | exact keepN hHeld (below_drewN _ _) | exact keepN S0 (below_drewN w1 _) | exact keepN S0 (Below.drew (Below.refl _ _))
              clear hK K
              try simp only [Act.put, List.setIfInBounds_toArray, List.set_cons_zero, List.set_cons_succ]
              refine wpAnyH_ready (rs := [12]) (by kernel_rfl) (by simp) ?_
              refine AllReadyH.cons (o := ⟨some 54, .call { callee := .value (.func 61), args := #[.tmp 52, .tmp 53, .const (.int .i64 32), .const (.int .i64 0), .const (.int .i64 32)], argTypes := #[165, 166, 3, 3, 3] }, 4, "cursor.go:134", #[⟨10, .data⟩, ⟨11, .data⟩, ⟨10, .chain⟩, ⟨6, .guard⟩], some (6, true)⟩) rfl (fun K hK => ?_) AllReadyH.nil
              go_simp
              rw [HO.out]; go_at_call 61; (with_reducible refine (fits_row (HW1.out.len _) HR4.out HD.out.1 HB32.out (by decide) (by decide) (by decide) (by decide)).mono ?_); rintro e w5 ⟨he, hb5⟩; rw [HOO.out] at he; subst he
              refine hK.out _ _ ?_ (fun hHeld => ?_)
              · (try dsimp only); first | exact hHeld | exact keepN hHeld (by assumption) | exact keepN hHeld (below_drewN _ _) | exact keepN S0 (below_drewN w1 _) | exact keepN S0 (Below.drew (Below.refl _ _))
              clear hK K
              try simp only [Act.put, List.setIfInBounds_toArray, List.set_cons_zero, List.set_cons_succ]
              refine tk 13 ⟨some 55, .pick (.tmp 48) (.tmp 54) (.const (.bool false)), 4, "cursor.go:134", #[⟨6, .data⟩, ⟨12, .data⟩], none⟩ rfl ?_
              refine wpAnyH_ready (rs := [19]) (by kernel_rfl) (by simp) ?_
              refine AllReadyH.cons (o := ⟨some 61, .call { callee := .value (.func 38), args := #[.tmp 55, .tmp 60], argTypes := #[4, 3] }, 0, "cursor.go:134", #[⟨13, .data⟩, ⟨18, .data⟩, ⟨12, .chain⟩], none⟩) rfl (fun K hK => ?_) AllReadyH.nil
              go_simp
              (try rw [hwq]); go_at_call 38; (with_reducible refine (need_no q _).mono ?_); rintro e w3 ⟨rfl, rfl⟩; refine ⟨rfl, ?_⟩; show Post g A c l lim w (uRes (uM rg l lim 5 0 p)) _ _; rw [HF2.out]; exact ⟨rfl, HR.out.trans (HG.trans (grown_of_below hHeld.2.2.2.1 _))⟩
            · have HF2 := hid (HF.out.trans (by rw [if_neg h128', if_pos ⟨.inr h15, ho⟩]))
              have HOO := hid ho
              clear HF ho
              refine wp_region_noPanic ?_
              refine wp_region_held_drew (S := (fun W => W.cell? ⟨g, 0, none⟩ = some (.slice A l.length c) ∧ W.cell? ⟨g, 1, none⟩ = some (.int .i64 (q + 1)) ∧ W.cell? ⟨g, 2, none⟩ = some (.int .i64 lim) ∧ Below w1.heap.size w1 W ∧ w1.heap.size ≤ W.heap.size)) (by kernel_rfl) ?hSf1 (fun hHeld => ?gof1)
              case hSf1 => first | exact hHeld | exact keepN hHeld (by assumption) | exact keepN hHeld (below_drewN _ _) | exact keepN S0 (below_drewN w1 _) | exact keepN S0 (Below.drew (Below.refl _ _))
              refine tk 0 ⟨some 42, .move (.tmp 6), 3, "cursor.go:134", #[], none⟩ rfl ?_
              refine tk 1 ⟨some 43, .binOp .lss 3 (.tmp 42) (.const (.int .i64 4)) 3, 4, "cursor.go:134", #[⟨0, .data⟩], none⟩ rfl ?_
              refine tk 2 ⟨some 44, .move (.tmp 43), 4, "cursor.go:134", #[⟨1, .data⟩], none⟩ rfl ?_
              refine tk 3 ⟨some 45, .move (.tmp 7), 5, "cursor.go:134", #[⟨2, .guard⟩], some (2, false)⟩ rfl ?_
              refine tk 4 ⟨some 46, .binOp .leq 5 (.tmp 45) (.const (.int .u8 15)) 5, 4, "cursor.go:134", #[⟨3, .data⟩, ⟨2, .guard⟩], some (2, false)⟩ rfl ?_
              refine tk 5 ⟨some 47, .pick (.tmp 44) (.const (.bool true)) (.tmp 46), 4, "cursor.go:134", #[⟨2, .data⟩, ⟨4, .data⟩], none⟩ rfl ?_
              refine tk 6 ⟨some 48, .move (.tmp 47), 4, "cursor.go:134", #[⟨5, .data⟩, ⟨2, .chain⟩], none⟩ rfl ?_
              refine tk 7 ⟨some 49, .move (.tmp 1), 196, "cursor.go:134", #[⟨6, .guard⟩], some (6, true)⟩ rfl ?_
              refine tk 8 ⟨some 50, .move (.tmp 0), 73, "cursor.go:134", #[⟨6, .guard⟩], some (6, true)⟩ rfl ?_
              refine tk 11 ⟨some 53, .move (.tmp 5), 166, "cursor.go:134", #[⟨6, .guard⟩], some (6, true)⟩ rfl ?_
              refine tk 14 ⟨some 56, .move (.tmp 0), 73, "cursor.go:134", #[], none⟩ rfl ?_
              refine tk 15 ⟨some 57, .nilCheck (.tmp 56), 0, "cursor.go:134", #[⟨14, .data⟩], none⟩ rfl ?_
              refine tk 16 ⟨some 58, .fieldAddr 156 (.tmp 57) 1, 0, "cursor.go:134", #[⟨15, .data⟩], none⟩ rfl ?_
              refine tk 17 ⟨some 59, .load 3 (.tmp 58), 3, "cursor.go:134", #[⟨16, .data⟩], none⟩ rfl ?_
              refine tk 18 ⟨some 60, .binOp .sub 3 (.tmp 59) (.const (.int .i64 1)) 3, 3, "cursor.go:134", #[⟨17, .data⟩], none⟩ rfl ?_
              refine wpAnyH_ready (rs := [9]) (by kernel_rfl) (by simp) ?_
              refine AllReadyH.cons (o := ⟨some 51, .call { callee := .value (.func 16), args := #[.tmp 50], argTypes := #[73] }, 3, "cursor.go:134", #[⟨8, .data⟩, ⟨6, .chain⟩, ⟨6, .guard⟩], some (6, true)⟩) rfl (fun K hK => ?_) AllReadyH.nil
              go_simp
              go_at_call 16; (with_reducible refine (HR1.out _ hHeld.2.2.2.1).mono ?_); rintro e w2 ⟨rfl, hb2⟩
              refine hK.out _ _ ?_ (fun hHeld => ?_)
              · (try dsimp only); first | exact hHeld | exact keepN hHeld (by assumption) | exact keepN hHeld (below_drewN _ _) | exact keepN S0 (below_drewN w1 _) | exact keepN S0 (Below.drew (Below.refl _ _))
              clear hK K
              try simp only [Act.put, List.setIfInBounds_toArray, List.set_cons_zero, List.set_cons_succ]
              refine wpAnyH_ready (rs := [10]) (by kernel_rfl) (by simp) ?_
              refine AllReadyH.cons (o := ⟨some 52, .call { callee := .value (.tmp 49), args := #[.tmp 51], argTypes := #[3] }, 165, "cursor.go:134", #[⟨7, .data⟩, ⟨9, .data⟩, ⟨9, .chain⟩, ⟨6, .guard⟩], some (6, true)⟩) rfl (fun K hK => ?_) AllReadyH.nil
              go_simp
              (with_reducible refine (HW1.out.call (rest (q + 1) lim) HRR.out.1 HRR.out.2 _ (grown_of_below hHeld.2.2.2.1 _)).mono ?_); rintro e w4 ⟨A4, c4, rfl, hR4, hb4⟩; have HR4 := hid hR4; clear hR4
              refine hK.out _ _ ?_ (fun hHeld => ?_)
              · (try dsimp only); first | exact hHeld | exact keepN hHeld (by assumption) | exact keepN hHeld (below_drewN _ _) | exact keepN S0 (below_drewN w1 _) | exact keepN S0 (Below.drew (Below.refl _ _))
              clear hK K
              try simp only [Act.put, List.setIfInBounds_toArray, List.set_cons_zero, List.set_cons_succ]
              refine wpAnyH_ready (rs := [12]) (by kernel_rfl) (by simp) ?_
              refine AllReadyH.cons (o := ⟨some 54, .call { callee := .value (.func 61), args := #[.tmp 52, .tmp 53, .const (.int .i64 32), .const (.int .i64 0), .const (.int .i64 32)], argTypes := #[165, 166, 3, 3, 3] }, 4, "cursor.go:134", #[⟨10, .data⟩, ⟨11, .data⟩, ⟨10, .chain⟩, ⟨6, .guard⟩], some (6, true)⟩) rfl (fun K hK => ?_) AllReadyH.nil
              go_simp
              rw [HO.out]; go_at_call 61; (with_reducible refine (fits_row (HW1.out.len _) HR4.out HD.out.1 HB32.out (by decide) (by decide) (by decide) (by decide)).mono ?_); rintro e w5 ⟨he, hb5⟩; rw [HOO.out] at he; subst he
              refine hK.out _ _ ?_ (fun hHeld => ?_)
              · (try dsimp only); first | exact hHeld | exact keepN hHeld (by assumption) | exact keepN hHeld (below_drewN _ _) | exact keepN S0 (below_drewN w1 _) | exact keepN S0 (Below.drew (Below.refl _ _))
              clear hK K
              try simp only [Act.put, List.setIfInBounds_toArray, List.set_cons_zero, List.set_cons_succ]
              refine tk 13 ⟨some 55, .pick (.tmp 48) (.tmp 54) (.const (.bool false)), 4, "cursor.go:134", #[⟨6, .data⟩, ⟨12, .data⟩], none⟩ rfl ?_
              refine wpAnyH_ready (rs := [19]) (by kernel_rfl) (by simp) ?_
              refine AllReadyH.cons (o := ⟨some 61, .call { callee := .value (.func 38), args := #[.tmp 55, .tmp 60], argTypes := #[4, 3] }, 0, "cursor.go:134", #[⟨13, .data⟩, ⟨18, .data⟩, ⟨12, .chain⟩], none⟩) rfl (fun K hK => ?_) AllReadyH.nil
              go_simp
              (try rw [hwq]); go_at_call 38; (with_reducible refine (need_yes q _).mono ?_); rintro e w3 ⟨rfl, rfl⟩
              refine hK.out _ _ ?_ (fun hHeld => ?_)
              · (try dsimp only); first | exact hHeld | exact keepN hHeld (by assumption) | exact keepN hHeld (below_drewN _ _) | exact keepN S0 (below_drewN w1 _) | exact keepN S0 (Below.drew (Below.refl _ _))
              clear hK K
              try simp only [Act.put, List.setIfInBounds_toArray, List.set_cons_zero, List.set_cons_succ]
              refine wpAnyH_done (by kernel_rfl) ?_ _
              refine NoPanic.normal ?_
              go_wp2_with fail
              go_ret
              show Post g A c l lim w (uRes (uM rg l lim 5 0 p)) _ _
              rw [HF2.out]
              exact ⟨ret_int (Int.emod_eq_of_lt HD.out.1 HB32.out), HC1.out.below hHeld.2.2.2.1, HR.out.trans (HG.trans (grown_of_below hHeld.2.2.2.1 _))⟩
          · have HF2 := hid (HF.out.trans (by rw [if_neg h128', if_neg (by rw [hj]; simp; omega)]))
            have hi4 : ¬ (i : Int) < 4 := by omega
            clear HF
            refine wp_region_held_drew (S := (fun W => W.cell? ⟨g, 0, none⟩ = some (.slice A l.length c) ∧ W.cell? ⟨g, 1, none⟩ = some (.int .i64 (q + 1)) ∧ W.cell? ⟨g, 2, none⟩ = some (.int .i64 lim) ∧ Below w1.heap.size w1 W ∧ w1.heap.size ≤ W.heap.size)) (by kernel_rfl) ?hSh1 (fun hHeld => ?goh1)
            case hSh1 => first | exact hHeld | exact keepN hHeld (by assumption) | exact keepN hHeld (below_drewN _ _) | exact keepN S0 (below_drewN w1 _) | exact keepN S0 (Below.drew (Below.refl _ _))
            refine tk 0 ⟨some 42, .move (.tmp 6), 3, "cursor.go:134", #[], none⟩ rfl ?_
            refine tk 1 ⟨some 43, .binOp .lss 3 (.tmp 42) (.const (.int .i64 4)) 3, 4, "cursor.go:134", #[⟨0, .data⟩], none⟩ rfl ?_
            refine tk 2 ⟨some 44, .move (.tmp 43), 4, "cursor.go:134", #[⟨1, .data⟩], none⟩ rfl ?_
            refine tk 3 ⟨some 45, .move (.tmp 7), 5, "cursor.go:134", #[⟨2, .guard⟩], some (2, false)⟩ rfl ?_
            refine tk 4 ⟨some 46, .binOp .leq 5 (.tmp 45) (.const (.int .u8 15)) 5, 4, "cursor.go:134", #[⟨3, .data⟩, ⟨2, .guard⟩], some (2, false)⟩ rfl ?_
            refine tk 5 ⟨some 47, .pick (.tmp 44) (.const (.bool true)) (.tmp 46), 4, "cursor.go:134", #[⟨2, .data⟩, ⟨4, .data⟩], none⟩ rfl ?_
            refine tk 6 ⟨some 48, .move (.tmp 47), 4, "cursor.go:134", #[⟨5, .data⟩, ⟨2, .chain⟩], none⟩ rfl ?_
            refine tkn 7 ⟨some 49, .move (.tmp 1), 196, "cursor.go:134", #[⟨6, .guard⟩], some (6, true)⟩ rfl ?_
            refine tkn 8 ⟨some 50, .move (.tmp 0), 73, "cursor.go:134", #[⟨6, .guard⟩], some (6, true)⟩ rfl ?_
            refine tkn 9 ⟨some 51, .call { callee := .value (.func 16), args := #[.tmp 50], argTypes := #[73] }, 3, "cursor.go:134", #[⟨8, .data⟩, ⟨6, .chain⟩, ⟨6, .guard⟩], some (6, true)⟩ rfl ?_
            refine tkn 10 ⟨some 52, .call { callee := .value (.tmp 49), args := #[.tmp 51], argTypes := #[3] }, 165, "cursor.go:134", #[⟨7, .data⟩, ⟨9, .data⟩, ⟨9, .chain⟩, ⟨6, .guard⟩], some (6, true)⟩ rfl ?_
            refine tkn 11 ⟨some 53, .move (.tmp 5), 166, "cursor.go:134", #[⟨6, .guard⟩], some (6, true)⟩ rfl ?_
            refine tkn 12 ⟨some 54, .call { callee := .value (.func 61), args := #[.tmp 52, .tmp 53, .const (.int .i64 32), .const (.int .i64 0), .const (.int .i64 32)], argTypes := #[165, 166, 3, 3, 3] }, 4, "cursor.go:134", #[⟨10, .data⟩, ⟨11, .data⟩, ⟨10, .chain⟩, ⟨6, .guard⟩], some (6, true)⟩ rfl ?_
            refine tk 13 ⟨some 55, .pick (.tmp 48) (.tmp 54) (.const (.bool false)), 4, "cursor.go:134", #[⟨6, .data⟩, ⟨12, .data⟩], none⟩ rfl ?_
            refine tk 14 ⟨some 56, .move (.tmp 0), 73, "cursor.go:134", #[], none⟩ rfl ?_
            refine tk 15 ⟨some 57, .nilCheck (.tmp 56), 0, "cursor.go:134", #[⟨14, .data⟩], none⟩ rfl ?_
            refine tk 16 ⟨some 58, .fieldAddr 156 (.tmp 57) 1, 0, "cursor.go:134", #[⟨15, .data⟩], none⟩ rfl ?_
            refine tk 17 ⟨some 59, .load 3 (.tmp 58), 3, "cursor.go:134", #[⟨16, .data⟩], none⟩ rfl ?_
            refine tk 18 ⟨some 60, .binOp .sub 3 (.tmp 59) (.const (.int .i64 1)) 3, 3, "cursor.go:134", #[⟨17, .data⟩], none⟩ rfl ?_
            refine wpAnyH_ready (rs := [19]) (by kernel_rfl) (by simp) ?_
            refine AllReadyH.cons (o := ⟨some 61, .call { callee := .value (.func 38), args := #[.tmp 55, .tmp 60], argTypes := #[4, 3] }, 0, "cursor.go:134", #[⟨13, .data⟩, ⟨18, .data⟩, ⟨12, .chain⟩], none⟩) rfl (fun K hK => ?_) AllReadyH.nil
            go_simp
            (try rw [hwq]); go_at_call 38; (with_reducible refine (need_no q _).mono ?_); rintro e w3 ⟨rfl, rfl⟩; refine ⟨rfl, ?_⟩; show Post g A c l lim w (uRes (uM rg l lim 5 0 p)) _ _; rw [HF2.out]; exact ⟨rfl, HR.out.trans (HG.trans (grown_of_below hHeld.2.2.2.1 _))⟩
        · have HB32 := hid (show v + x % 128 * 128 ^ i < 2 ^ (32 : Int).toNat from HD32.out (.inl hj))
          have hi4 : (i : Int) < 4 := by omega
          rcases ho : fitsI (v + x % 128 * 128 ^ i) 32 0 32 (rg (rest (q + 1) lim)) with _ | _
          · have HF2 := hid (HF.out.trans (by rw [if_neg h128', if_neg (by rw [ho]; simp)]))
            have HOO := hid ho
            clear HF ho
            refine wp_region_held_drew (S := (fun W => W.cell? ⟨g, 0, none⟩ = some (.slice A l.length c) ∧ W.cell? ⟨g, 1, none⟩ = some (.int .i64 (q + 1)) ∧ W.cell? ⟨g, 2, none⟩ = some (.int .i64 lim) ∧ Below w1.heap.size w1 W ∧ w1.heap.size ≤ W.heap.size)) (by kernel_rfl) ?hSm1 (fun hHeld => ?gom1)
            case hSm1 => first | exact hHeld | exact keepN hHeld (by assumption) | exact keepN hHeld (below_drewN _ _) | exact keepN S0 (below_drewN w1 _) | exact keepN S0 (Below.drew (Below.refl _ _))
            refine tk 0 ⟨some 42, .move (.tmp 6), 3, "cursor.go:134", #[], none⟩ rfl ?_
            refine tk 1 ⟨some 43, .binOp .lss 3 (.tmp 42) (.const (.int .i64 4)) 3, 4, "cursor.go:134", #[⟨0, .data⟩], none⟩ rfl ?_
            refine tk 2 ⟨some 44, .move (.tmp 43), 4, "cursor.go:134", #[⟨1, .data⟩], none⟩ rfl ?_
            refine tkn 3 ⟨some 45, .move (.tmp 7), 5, "cursor.go:134", #[⟨2, .guard⟩], some (2, false)⟩ rfl ?_
            refine tkn 4 ⟨some 46, .binOp .leq 5 (.tmp 45) (.const (.int .u8 15)) 5, 4, "cursor.go:134", #[⟨3, .data⟩, ⟨2, .guard⟩], some (2, false)⟩ rfl ?_
            refine tk 5 ⟨some 47, .pick (.tmp 44) (.const (.bool true)) (.tmp 46), 4, "cursor.go:134", #[⟨2, .data⟩, ⟨4, .data⟩], none⟩ rfl ?_
            refine tk 6 ⟨some 48, .move (.tmp 47), 4, "cursor.go:134", #[⟨5, .data⟩, ⟨2, .chain⟩], none⟩ rfl ?_
            refine tk 7 ⟨some 49, .move (.tmp 1), 196, "cursor.go:134", #[⟨6, .guard⟩], some (6, true)⟩ rfl ?_
            refine tk 8 ⟨some 50, .move (.tmp 0), 73, "cursor.go:134", #[⟨6, .guard⟩], some (6, true)⟩ rfl ?_
            refine tk 11 ⟨some 53, .move (.tmp 5), 166, "cursor.go:134", #[⟨6, .guard⟩], some (6, true)⟩ rfl ?_
            refine tk 14 ⟨some 56, .move (.tmp 0), 73, "cursor.go:134", #[], none⟩ rfl ?_
            refine tk 15 ⟨some 57, .nilCheck (.tmp 56), 0, "cursor.go:134", #[⟨14, .data⟩], none⟩ rfl ?_
            refine tk 16 ⟨some 58, .fieldAddr 156 (.tmp 57) 1, 0, "cursor.go:134", #[⟨15, .data⟩], none⟩ rfl ?_
            refine tk 17 ⟨some 59, .load 3 (.tmp 58), 3, "cursor.go:134", #[⟨16, .data⟩], none⟩ rfl ?_
            refine tk 18 ⟨some 60, .binOp .sub 3 (.tmp 59) (.const (.int .i64 1)) 3, 3, "cursor.go:134", #[⟨17, .data⟩], none⟩ rfl ?_
            refine wpAnyH_ready (rs := [9]) (by kernel_rfl) (by simp) ?_
            refine AllReadyH.cons (o := ⟨some 51, .call { callee := .value (.func 16), args := #[.tmp 50], argTypes := #[73] }, 3, "cursor.go:134", #[⟨8, .data⟩, ⟨6, .chain⟩, ⟨6, .guard⟩], some (6, true)⟩) rfl (fun K hK => ?_) AllReadyH.nil
            go_simp
            go_at_call 16; (with_reducible refine (HR1.out _ hHeld.2.2.2.1).mono ?_); rintro e w2 ⟨rfl, hb2⟩
            refine hK.out _ _ ?_ (fun hHeld => ?_)
            · (try dsimp only); first | exact hHeld | exact keepN hHeld (by assumption) | exact keepN hHeld (below_drewN _ _) | exact keepN S0 (below_drewN w1 _) | exact keepN S0 (Below.drew (Below.refl _ _))
            clear hK K
            try simp only [Act.put, List.setIfInBounds_toArray, List.set_cons_zero, List.set_cons_succ]
            refine wpAnyH_ready (rs := [10]) (by kernel_rfl) (by simp) ?_
            refine AllReadyH.cons (o := ⟨some 52, .call { callee := .value (.tmp 49), args := #[.tmp 51], argTypes := #[3] }, 165, "cursor.go:134", #[⟨7, .data⟩, ⟨9, .data⟩, ⟨9, .chain⟩, ⟨6, .guard⟩], some (6, true)⟩) rfl (fun K hK => ?_) AllReadyH.nil
            go_simp
            (with_reducible refine (HW1.out.call (rest (q + 1) lim) HRR.out.1 HRR.out.2 _ (grown_of_below hHeld.2.2.2.1 _)).mono ?_); rintro e w4 ⟨A4, c4, rfl, hR4, hb4⟩; have HR4 := hid hR4; clear hR4
            refine hK.out _ _ ?_ (fun hHeld => ?_)
            · (try dsimp only); first | exact hHeld | exact keepN hHeld (by assumption) | exact keepN hHeld (below_drewN _ _) | exact keepN S0 (below_drewN w1 _) | exact keepN S0 (Below.drew (Below.refl _ _))
            clear hK K
            try simp only [Act.put, List.setIfInBounds_toArray, List.set_cons_zero, List.set_cons_succ]
            refine wpAnyH_ready (rs := [12]) (by kernel_rfl) (by simp) ?_
            refine AllReadyH.cons (o := ⟨some 54, .call { callee := .value (.func 61), args := #[.tmp 52, .tmp 53, .const (.int .i64 32), .const (.int .i64 0), .const (.int .i64 32)], argTypes := #[165, 166, 3, 3, 3] }, 4, "cursor.go:134", #[⟨10, .data⟩, ⟨11, .data⟩, ⟨10, .chain⟩, ⟨6, .guard⟩], some (6, true)⟩) rfl (fun K hK => ?_) AllReadyH.nil
            go_simp
            rw [HO.out]; go_at_call 61; (with_reducible refine (fits_row (HW1.out.len _) HR4.out HD.out.1 HB32.out (by decide) (by decide) (by decide) (by decide)).mono ?_); rintro e w5 ⟨he, hb5⟩; rw [HOO.out] at he; subst he
            refine hK.out _ _ ?_ (fun hHeld => ?_)
            · (try dsimp only); first | exact hHeld | exact keepN hHeld (by assumption) | exact keepN hHeld (below_drewN _ _) | exact keepN S0 (below_drewN w1 _) | exact keepN S0 (Below.drew (Below.refl _ _))
            clear hK K
            try simp only [Act.put, List.setIfInBounds_toArray, List.set_cons_zero, List.set_cons_succ]
            refine tk 13 ⟨some 55, .pick (.tmp 48) (.tmp 54) (.const (.bool false)), 4, "cursor.go:134", #[⟨6, .data⟩, ⟨12, .data⟩], none⟩ rfl ?_
            refine wpAnyH_ready (rs := [19]) (by kernel_rfl) (by simp) ?_
            refine AllReadyH.cons (o := ⟨some 61, .call { callee := .value (.func 38), args := #[.tmp 55, .tmp 60], argTypes := #[4, 3] }, 0, "cursor.go:134", #[⟨13, .data⟩, ⟨18, .data⟩, ⟨12, .chain⟩], none⟩) rfl (fun K hK => ?_) AllReadyH.nil
            go_simp
            (try rw [hwq]); go_at_call 38; (with_reducible refine (need_no q _).mono ?_); rintro e w3 ⟨rfl, rfl⟩; refine ⟨rfl, ?_⟩; show Post g A c l lim w (uRes (uM rg l lim 5 0 p)) _ _; rw [HF2.out]; exact ⟨rfl, HR.out.trans (HG.trans (grown_of_below hHeld.2.2.2.1 _))⟩
          · have HF2 := hid (HF.out.trans (by rw [if_neg h128', if_pos ⟨.inl hj, ho⟩]))
            have HOO := hid ho
            clear HF ho
            refine wp_region_noPanic ?_
            refine wp_region_held_drew (S := (fun W => W.cell? ⟨g, 0, none⟩ = some (.slice A l.length c) ∧ W.cell? ⟨g, 1, none⟩ = some (.int .i64 (q + 1)) ∧ W.cell? ⟨g, 2, none⟩ = some (.int .i64 lim) ∧ Below w1.heap.size w1 W ∧ w1.heap.size ≤ W.heap.size)) (by kernel_rfl) ?hSn1 (fun hHeld => ?gon1)
            case hSn1 => first | exact hHeld | exact keepN hHeld (by assumption) | exact keepN hHeld (below_drewN _ _) | exact keepN S0 (below_drewN w1 _) | exact keepN S0 (Below.drew (Below.refl _ _))
            refine tk 0 ⟨some 42, .move (.tmp 6), 3, "cursor.go:134", #[], none⟩ rfl ?_
            refine tk 1 ⟨some 43, .binOp .lss 3 (.tmp 42) (.const (.int .i64 4)) 3, 4, "cursor.go:134", #[⟨0, .data⟩], none⟩ rfl ?_
            refine tk 2 ⟨some 44, .move (.tmp 43), 4, "cursor.go:134", #[⟨1, .data⟩], none⟩ rfl ?_
            refine tkn 3 ⟨some 45, .move (.tmp 7), 5, "cursor.go:134", #[⟨2, .guard⟩], some (2, false)⟩ rfl ?_
            refine tkn 4 ⟨some 46, .binOp .leq 5 (.tmp 45) (.const (.int .u8 15)) 5, 4, "cursor.go:134", #[⟨3, .data⟩, ⟨2, .guard⟩], some (2, false)⟩ rfl ?_
            refine tk 5 ⟨some 47, .pick (.tmp 44) (.const (.bool true)) (.tmp 46), 4, "cursor.go:134", #[⟨2, .data⟩, ⟨4, .data⟩], none⟩ rfl ?_
            refine tk 6 ⟨some 48, .move (.tmp 47), 4, "cursor.go:134", #[⟨5, .data⟩, ⟨2, .chain⟩], none⟩ rfl ?_
            refine tk 7 ⟨some 49, .move (.tmp 1), 196, "cursor.go:134", #[⟨6, .guard⟩], some (6, true)⟩ rfl ?_
            refine tk 8 ⟨some 50, .move (.tmp 0), 73, "cursor.go:134", #[⟨6, .guard⟩], some (6, true)⟩ rfl ?_
            refine tk 11 ⟨some 53, .move (.tmp 5), 166, "cursor.go:134", #[⟨6, .guard⟩], some (6, true)⟩ rfl ?_
            refine tk 14 ⟨some 56, .move (.tmp 0), 73, "cursor.go:134", #[], none⟩ rfl ?_
            refine tk 15 ⟨some 57, .nilCheck (.tmp 56), 0, "cursor.go:134", #[⟨14, .data⟩], none⟩ rfl ?_
            refine tk 16 ⟨some 58, .fieldAddr 156 (.tmp 57) 1, 0, "cursor.go:134", #[⟨15, .data⟩], none⟩ rfl ?_
            refine tk 17 ⟨some 59, .load 3 (.tmp 58), 3, "cursor.go:134", #[⟨16, .data⟩], none⟩ rfl ?_
            refine tk 18 ⟨some 60, .binOp .sub 3 (.tmp 59) (.const (.int .i64 1)) 3, 3, "cursor.go:134", #[⟨17, .data⟩], none⟩ rfl ?_
            refine wpAnyH_ready (rs := [9]) (by kernel_rfl) (by simp) ?_
            refine AllReadyH.cons (o := ⟨some 51, .call { callee := .value (.func 16), args := #[.tmp 50], argTypes := #[73] }, 3, "cursor.go:134", #[⟨8, .data⟩, ⟨6, .chain⟩, ⟨6, .guard⟩], some (6, true)⟩) rfl (fun K hK => ?_) AllReadyH.nil
            go_simp
            go_at_call 16; (with_reducible refine (HR1.out _ hHeld.2.2.2.1).mono ?_); rintro e w2 ⟨rfl, hb2⟩
            refine hK.out _ _ ?_ (fun hHeld => ?_)
            · (try dsimp only); first | exact hHeld | exact keepN hHeld (by assumption) | exact keepN hHeld (below_drewN _ _) | exact keepN S0 (below_drewN w1 _) | exact keepN S0 (Below.drew (Below.refl _ _))
            clear hK K
            try simp only [Act.put, List.setIfInBounds_toArray, List.set_cons_zero, List.set_cons_succ]
            refine wpAnyH_ready (rs := [10]) (by kernel_rfl) (by simp) ?_
            refine AllReadyH.cons (o := ⟨some 52, .call { callee := .value (.tmp 49), args := #[.tmp 51], argTypes := #[3] }, 165, "cursor.go:134", #[⟨7, .data⟩, ⟨9, .data⟩, ⟨9, .chain⟩, ⟨6, .guard⟩], some (6, true)⟩) rfl (fun K hK => ?_) AllReadyH.nil
            go_simp
            (with_reducible refine (HW1.out.call (rest (q + 1) lim) HRR.out.1 HRR.out.2 _ (grown_of_below hHeld.2.2.2.1 _)).mono ?_); rintro e w4 ⟨A4, c4, rfl, hR4, hb4⟩; have HR4 := hid hR4; clear hR4
            refine hK.out _ _ ?_ (fun hHeld => ?_)
            · (try dsimp only); first | exact hHeld | exact keepN hHeld (by assumption) | exact keepN hHeld (below_drewN _ _) | exact keepN S0 (below_drewN w1 _) | exact keepN S0 (Below.drew (Below.refl _ _))
            clear hK K
            try simp only [Act.put, List.setIfInBounds_toArray, List.set_cons_zero, List.set_cons_succ]
            refine wpAnyH_ready (rs := [12]) (by kernel_rfl) (by simp) ?_
            refine AllReadyH.cons (o := ⟨some 54, .call { callee := .value (.func 61), args := #[.tmp 52, .tmp 53, .const (.int .i64 32), .const (.int .i64 0), .const (.int .i64 32)], argTypes := #[165, 166, 3, 3, 3] }, 4, "cursor.go:134", #[⟨10, .data⟩, ⟨11, .data⟩, ⟨10, .chain⟩, ⟨6, .guard⟩], some (6, true)⟩) rfl (fun K hK => ?_) AllReadyH.nil
            go_simp
            rw [HO.out]; go_at_call 61; (with_reducible refine (fits_row (HW1.out.len _) HR4.out HD.out.1 HB32.out (by decide) (by decide) (by decide) (by decide)).mono ?_); rintro e w5 ⟨he, hb5⟩; rw [HOO.out] at he; subst he
            refine hK.out _ _ ?_ (fun hHeld => ?_)
            · (try dsimp only); first | exact hHeld | exact keepN hHeld (by assumption) | exact keepN hHeld (below_drewN _ _) | exact keepN S0 (below_drewN w1 _) | exact keepN S0 (Below.drew (Below.refl _ _))
            clear hK K
            try simp only [Act.put, List.setIfInBounds_toArray, List.set_cons_zero, List.set_cons_succ]
            refine tk 13 ⟨some 55, .pick (.tmp 48) (.tmp 54) (.const (.bool false)), 4, "cursor.go:134", #[⟨6, .data⟩, ⟨12, .data⟩], none⟩ rfl ?_
            refine wpAnyH_ready (rs := [19]) (by kernel_rfl) (by simp) ?_
            refine AllReadyH.cons (o := ⟨some 61, .call { callee := .value (.func 38), args := #[.tmp 55, .tmp 60], argTypes := #[4, 3] }, 0, "cursor.go:134", #[⟨13, .data⟩, ⟨18, .data⟩, ⟨12, .chain⟩], none⟩) rfl (fun K hK => ?_) AllReadyH.nil
            go_simp
            (try rw [hwq]); go_at_call 38; (with_reducible refine (need_yes q _).mono ?_); rintro e w3 ⟨rfl, rfl⟩
            refine hK.out _ _ ?_ (fun hHeld => ?_)
            · (try dsimp only); first | exact hHeld | exact keepN hHeld (by assumption) | exact keepN hHeld (below_drewN _ _) | exact keepN S0 (below_drewN w1 _) | exact keepN S0 (Below.drew (Below.refl _ _))
            clear hK K
            try simp only [Act.put, List.setIfInBounds_toArray, List.set_cons_zero, List.set_cons_succ]
            refine wpAnyH_done (by kernel_rfl) ?_ _
            refine NoPanic.normal ?_
            go_wp2_with fail
            go_ret
            show Post g A c l lim w (uRes (uM rg l lim 5 0 p)) _ _
            rw [HF2.out]
            exact ⟨ret_int (Int.emod_eq_of_lt HD.out.1 HB32.out), HC1.out.below hHeld.2.2.2.1, HR.out.trans (HG.trans (grown_of_below hHeld.2.2.2.1 _))⟩
end Go.Proofs.YtiohiiekaofkbaaGreatDoor
/- What the reference puts of a number (this seat's numbers of functions and types). -/
namespace Go.Proofs.YtiohiiekaofkbaaGreatDoor
set_option linter.unusedVariables false
set_option linter.unusedSimpArgs false
open Go.RowKit
def uL (x : Int) : List Int := if h : x < 128 then [x] else (x % 128 + 128) :: uL (x / 128)
termination_by x.toNat
decreasing_by omega
theorem uL_small {x : Int} (h : x < 128) : uL x = [x] := by rw [uL, dif_pos h]
theorem uL_big {x : Int} (h : 128 ≤ x) : uL x = (x % 128 + 128) :: uL (x / 128) := by rw [uL, dif_neg (by omega)]
theorem uL_pos (x : Int) : 1 ≤ (uL x).length := by
  by_cases h : x < 128
  · rw [uL_small h]; simp
  · rw [uL_big (by omega)]; simp
def Src (w : World) (B : Nat) (A : Option Addr) (c : Nat) (l : List Int) : Prop :=
  (A = none ∧ c = 0 ∧ l = []) ∨ ∃ ad, A = some ad ∧ (l ≠ [] → ad.block < B) ∧ ∀ j u, (bv l)[j]? = some u → w.cell? (ad.add j) = some u
theorem Src.keep {w w' : World} {B : Nat} {A : Option Addr} {c : Nat} {l : List Int} (h : Src w B A c l) (hk : ∀ p : Addr, p.block < B → w'.cell? p = w.cell? p) : Src w' B A c l := by
  rcases h with h | ⟨ad, e, hb, hc⟩
  · exact .inl h
  · refine .inr ⟨ad, e, hb, fun j u hu => (hk _ ?_).trans (hc j u hu)⟩
    have hb' := hb (by rintro rfl; simp [bv] at hu)
    unfold Addr.add; split <;> exact hb'
theorem Src.below {w w' : World} {B B' : Nat} {A : Option Addr} {c : Nat} {l : List Int} (h : Src w B A c l) (hb : Below B' w w') (hB : B ≤ B') : Src w' B A c l := h.keep fun p hp => hb.cell (by omega)
theorem own_nil (w : World) (base : Nat) : Own w base (.slice none 0 0) [] := World.ownsRow_nil _ _ _ _
theorem Own.form {w : World} {base : Nat} {v : Value} {l : List Int} (h : Own w base v l) (hn : 0 < l.length) : ∃ g cap, v = .slice (some ⟨g, 0, none⟩) l.length cap ∧ base ≤ g ∧ g < w.heap.size := World.ownsRow.form h hn
theorem uL_len (k : Nat) : ∀ x : Int, 0 ≤ x → x < 128 ^ (k + 1) → (uL x).length ≤ k + 1 := by
  induction k with
  | zero => intro x h0 h1; rw [uL_small (by omega)]; simp
  | succ k ih =>
    intro x h0 h1
    by_cases h : x < 128
    · rw [uL_small h]; simp
    · rw [uL_big (by omega)]
      have := ih (x / 128) (by omega) (by rw [Int.pow_succ] at h1; omega)
      simp; omega
theorem uL_len10 {x : Int} (h0 : 0 ≤ x) (h1 : x ≤ 18446744073709551615) : (uL x).length ≤ 10 := uL_len 9 x h0 (by omega)
def val : List Int → Int
  | [] => 0
  | x :: t => x % 128 + 128 * val t
theorem val_app (l : List Int) (x : Int) : val (l ++ [x]) = val l + (x % 128) * 128 ^ l.length := by
  induction l with
  | nil => simp [val]
  | cons a l ih => simp only [List.cons_append, val, ih, List.length_cons, Int.pow_succ, Int.mul_add]; rw [Int.add_assoc, Int.mul_left_comm, Int.mul_comm 128 (128 ^ _)]
theorem val_lt (l : List Int) : 0 ≤ val l ∧ val l < 128 ^ l.length := by
  induction l with
  | nil => simp [val]
  | cons a l ih => simp only [val, List.length_cons, Int.pow_succ]; omega
def Digits (L D : List Int) (x : Int) : Prop := L = D ++ [x] ∧ (∀ z ∈ D, 128 ≤ z ∧ z < 256) ∧ 0 ≤ x ∧ x < 128
end Go.Proofs.YtiohiiekaofkbaaGreatDoor
/- What is put is read as it was: numbers. Plain. -/
namespace Go.Proofs.YtiohiiekaofkbaaGreatDoor
set_option linter.unusedVariables false
set_option linter.unusedSimpArgs false
open Go.RowKit
theorem ceil_le {x T q : Int} (hT : 1 ≤ T) (h : x ≤ T * q) : (x + T - 1) / T ≤ q := by
  have : (x + T - 1) / T < q + 1 := by
    apply Int.ediv_lt_of_lt_mul (by omega)
    rw [Int.add_mul, Int.one_mul, Int.mul_comm q T]
    omega
  omega
theorem fit_in {T M low lo hi V q : Int} (hT : 1 ≤ T) (h0 : lo ≤ V) (h1 : V ≤ hi) (hq : 0 ≤ q) (hV : V = low + T * q) (hM : V ≤ M) : fitOne T M low (lo, hi) = true := by
  have hp : 0 ≤ T * q := Int.mul_nonneg (by omega) hq
  have hf : fitV T low lo ≤ V := by
    unfold fitV
    split
    · have := ceil_le (x := lo - low) (q := q) hT (by omega)
      have h2 : (lo - low + T - 1) / T * T ≤ q * T := Int.mul_le_mul_of_nonneg_right this (by omega)
      rw [Int.mul_comm q T] at h2
      omega
    · omega
  unfold fitOne
  exact decide_eq_true ⟨by show lo ≤ hi; omega, by omega, by show fitV T low lo ≤ hi; omega, by show fitV T low lo ≤ M; omega⟩
theorem fits_mem {T M low lo hi : Int} {l : List (Int × Int)} (hl : (lo, hi) ∈ l) (h : fitOne T M low (lo, hi) = true) : fitsB T M low l = true := List.any_eq_true.2 ⟨_, hl, h⟩
theorem pow7 (j : Nat) (hj : j ≤ 9) : (2 : Int) ^ (7 * (j : Int)).toNat = 128 ^ j := by
  have : j = 0 ∨ j = 1 ∨ j = 2 ∨ j = 3 ∨ j = 4 ∨ j = 5 ∨ j = 6 ∨ j = 7 ∨ j = 8 ∨ j = 9 := by omega
  rcases this with rfl | rfl | rfl | rfl | rfl | rfl | rfl | rfl | rfl | rfl <;> decide
theorem pow128 (i : Nat) : 1 ≤ (128 : Int) ^ i := by
  have : (0 : Int) < 128 ^ i := Int.pow_pos (by decide)
  omega
theorem fits_more {V lo hi v q : Int} {s j : Nat} {rg : List (Int × Int)} (hs : s ≤ 4) (hj : j ≤ 4) (hl : (lo, hi) ∈ rg) (h0 : lo ≤ V) (h1 : V ≤ hi) (hV : V ≤ 4294967295) (hq : 0 ≤ q) (hq2 : q < 128 ^ j) (hVq : V = v + 128 ^ s * q) : fitsI v (7 * (s : Int)) (j : Int) 32 rg = true := by
  unfold fitsI
  rw [pow7 s (by omega), pow7 j (by omega)]
  have hT := pow128 s
  refine fits_mem hl (fit_in hT h0 h1 hq hVq ?_)
  unfold mostS
  split
  · have : q * 128 ^ s ≤ (128 ^ j - 1) * 128 ^ s := Int.mul_le_mul_of_nonneg_right (by omega) (by omega)
    rw [hVq, Int.mul_comm (128 ^ s) q]
    omega
  · show V ≤ (2 : Int) ^ (32 : Int).toNat - 1
    have : (2 : Int) ^ (32 : Int).toNat = 4294967296 := by decide
    omega
theorem fits_last {V lo hi : Int} {rg : List (Int × Int)} (hl : (lo, hi) ∈ rg) (h0 : lo ≤ V) (h1 : V ≤ hi) (hV : V ≤ 4294967295) : fitsI V 32 0 32 rg = true := by
  unfold fitsI
  refine fits_mem hl (fit_in (q := 0) (by decide) h0 h1 (by omega) (by omega) ?_)
  show V ≤ mostS _ _ _ V 32 0 32
  unfold mostS
  rw [if_neg (by decide)]
  have : (2 : Int) ^ (32 : Int).toNat = 4294967296 := by decide
  omega
theorem open_of {rg : Int → List (Int × Int)} {p lim v shift : Int} {j n : Nat} (h0 : 0 ≤ wiR p lim (j + 1 : Nat)) (h : fitsI v shift (j + 1 : Nat) 32 (rg (wiR p lim (j + 1 : Nat))) = true) (hn : j + 1 ≤ n) : openN rg p lim v shift n = true :=
  openN_mono (i := j + 1) (by rw [openN, h, decide_eq_true h0]; simp) hn
def HasAt (l : List Int) (p : Int) (L : List Int) : Prop := ∀ (j : Nat) (x : Int), L[j]? = some x → l[(p + j).toNat]? = some x
theorem HasAt.tail {l : List Int} {p x : Int} {L : List Int} (h : HasAt l p (x :: L)) (hp : 0 ≤ p) : HasAt l (p + 1) L := fun j y hj => by
  have := h (j + 1) y (by simpa using hj)
  rwa [show (p + ((j + 1 : Nat) : Int)).toNat = (p + 1 + (j : Int)).toNat by omega] at this
theorem HasAt.head {l : List Int} {p x : Int} {L : List Int} (h : HasAt l p (x :: L)) : l[p.toNat]? = some x := by
  have := h 0 x rfl
  rwa [show (p + ((0 : Nat) : Int)).toNat = p.toNat by omega] at this
theorem next_at {l : List Int} {p lim x : Int} {L : List Int} (h : HasAt l p (x :: L)) (hl : p < lim) : nextR l p lim = .ok x := by
  unfold nextR
  rw [if_neg (by unfold rest; split <;> omega), h.head]
theorem uM_read {rg : Int → List (Int × Int)} {l : List Int} {lim V lo hi pe : Int} (hr : (lo, hi) ∈ rg (rest pe lim)) (h0 : lo ≤ V) (h1 : V ≤ hi) (hV : V ≤ 4294967295) (hlim : pe ≤ lim) (y : Int) (y0 : 0 ≤ y) (y1 : y < 128) :
    ∀ (D : List Int) (i : Nat) (v p : Int), i + D.length ≤ 4 → (∀ z ∈ D, 128 ≤ z ∧ z < 256) → 0 ≤ v → v < 128 ^ i → V = v + 128 ^ i * val (D ++ [y]) → 0 ≤ p → pe = p + D.length + 1 → HasAt l p (D ++ [y]) →
      uM rg l lim (5 - i) v p = .ok (V, pe) := by
  intro D
  induction D with
  | nil =>
    intro i v p hi _ v0 v1 hVv p0 hpe hat
    obtain ⟨k, hk⟩ : ∃ k, k + i = 4 := ⟨4 - i, by simp at hi; omega⟩
    have e5 : 5 - i = k + 1 := by omega
    have e4 : 4 - k = i := by omega
    simp only [List.length_nil, Int.natCast_zero, Int.add_zero] at hpe
    have hat2 : HasAt l p (y :: []) := hat
    rw [e5]
    simp only [uM, next_at hat2 (show p < lim by omega), e4]
    have hv : v + y % 128 * 128 ^ i = V := by
      rw [hVv]; simp only [List.nil_append, val]; rw [show y % 128 = y by omega, Int.mul_zero, Int.add_zero, Int.mul_comm]
    have hc : k ≠ 0 ∨ y ≤ 15 := by
      by_cases h : k = 0
      · right
        obtain rfl : i = 4 := by omega
        rw [show (128 : Int) ^ 4 = 268435456 by decide] at hv v1
        omega
      · left; exact h
    have hf : fitsI V 32 0 32 (rg (rest (p + 1) lim)) = true := by rw [← hpe]; exact fits_last hr h0 h1 hV
    rw [if_neg (by omega), hv, if_pos (And.intro hc hf), hpe]
  | cons z D ih =>
    intro i v p hi hD v0 v1 hVv p0 hpe hat
    simp only [List.length_cons] at hi hpe
    obtain ⟨k, hk⟩ : ∃ k, k + i = 4 := ⟨4 - i, by omega⟩
    have e5 : 5 - i = k + 1 := by omega
    have e4 : 4 - k = i := by omega
    obtain ⟨z0, z1⟩ := hD z (by simp)
    have hat2 : HasAt l p (z :: (D ++ [y])) := hat
    have hP := pow128 i
    have hw := val_lt (D ++ [y])
    have hVz : V = (v + z % 128 * 128 ^ i) + 128 ^ (i + 1) * val (D ++ [y]) := by
      rw [hVv]; simp only [List.cons_append, val, Int.pow_succ, Int.mul_add]
      rw [Int.mul_comm (128 ^ i) (z % 128), Int.mul_assoc]; omega
    have hv1 : v + z % 128 * 128 ^ i < 128 ^ (i + 1) := by
      have : z % 128 * 128 ^ i ≤ 127 * 128 ^ i := Int.mul_le_mul_of_nonneg_right (by omega) (by omega)
      rw [Int.pow_succ]; omega
    have hv0 : 0 ≤ v + z % 128 * 128 ^ i := by
      have : 0 ≤ z % 128 * 128 ^ i := Int.mul_nonneg (by omega) (by omega)
      omega
    rw [e5]
    simp only [uM, next_at hat2 (show p < lim by omega), e4]
    have hsh : 7 * (5 - (k : Int)) = 7 * ((i + 1 : Nat) : Int) := by omega
    have hwi : wiR (p + 1) lim ((D.length + 1 : Nat) : Int) = rest pe lim := by
      unfold wiR rest; split <;> omega
    have hop : openN rg (p + 1) lim (v + z % 128 * 128 ^ i) (7 * (5 - (k : Int))) k = true := by
      rw [hsh]
      refine open_of (j := D.length) (by rw [hwi]; unfold rest; split <;> omega) ?_ (by omega)
      rw [hwi]
      refine fits_more (q := val (D ++ [y])) (by omega) (by omega) hr h0 h1 hV hw.1 ?_ hVz
      have := hw.2
      rwa [List.length_append] at this
    rw [if_pos z0, if_pos ⟨by omega, hop⟩, show k = 5 - (i + 1) by omega]
    exact ih (i + 1) _ (p + 1) (by omega) (fun q hq => hD q (by simp [hq])) hv0 hv1 hVz (by omega) (by omega) (hat2.tail p0)
end Go.Proofs.YtiohiiekaofkbaaGreatDoor
/- Contracts of Counts (the rest) and Sizes. -/
namespace Go.Proofs.YtiohiiekaofkbaaGreatDoor
set_option linter.unusedVariables false
set_option linter.unusedSimpArgs false
open Go.RowKit
set_option maxHeartbeats 1000000 in
theorem counts_one (a b c d r : Int) (w : World) (ha : 1 ≤ a) (ha2 : a ≤ 1099511627776) (hb : 1 ≤ b) (hb2 : b ≤ 9223372036854775807) (h1 : c ≤ r) (h2 : d < 1099511627776) (h3 : d < r) (h4 : 1099511627776 ≤ b) (hc : 0 ≤ c) (hc2 : c ≤ 1099511627776) (hd : 0 ≤ d) (hd2 : d ≤ 9223372036854775807) (hr : 0 ≤ r) (hr2 : r ≤ 1099511627776) (hw : 2 < w.heap.size) (g0 : w.cell? ⟨2, 0, none⟩ = some (.int .u64 1)) (g1 : w.cell? ⟨2, 1, none⟩ = some (.int .u64 0)) :
    Calls Tryz.prog 65 #[.agg #[.int .i64 a, .int .i64 b], .agg #[.int .i64 c, .int .i64 d], .int .i64 r] w fun e w' => e = .returned (.agg #[.int .u64 (wiL 1 ((r - c) / a)), .int .u64 (wiH 1 ((r - c) / a))]) ∧ Below w.heap.size w w' := by
  obtain ⟨hG1, hG2, hG3, hG4, hG5, hG6⟩ := glob_far hw g0; obtain ⟨hH1, hH2, hH3, hH4, hH5, hH6⟩ := glob_far hw g1
  have q0 := Int.ediv_nonneg (a := r - c) (b := a) (by omega) (by omega)
  have q1 : (r - c) / a ≤ r - c := Int.ediv_le_self _ (by omega)
  rcases Int.le_iff_lt_or_eq.mp ha with h | h
  · have hbE : decide (b < 1099511627776) = false := decide_eq_false (by omega)
    go_enter Tryz.func65, Tryz.ntmps65
    go_wp2_with (first | (go_at_call 63; refine (within_any _ _ _ (by omega) (by omega) (by omega) (by omega) (by first | exact Nat.le_refl _ | (simp; done) | (simp; omega) | omega) (by go_simp) (by go_simp)).mono ?_; rintro e w' ⟨rfl, hb1⟩; obtain ⟨hc1, hf1⟩ := bcell hb1; have hz1 := hb1.size; (try simp at hz1); (try replace hz1 := Nat.lt_of_succ_le hz1)) | go_in)
    all_goals
      obtain ⟨q0, q1⟩ := set2 (W := w') (g := w.heap.size + 1 + 1) (x := .int .u64 0) (y := .int .u64 0) (u := .int .u64 (wiL 1 ((r - c) / a))) (v := .int .u64 (wiH 1 ((r - c) / a))) (by go_simp) (by go_simp)
      refine bodyPost_ret (v := .agg #[.int .u64 (wiL 1 ((r - c) / a)), .int .u64 (wiH 1 ((r - c) / a))]) ?_ rfl ⟨rfl, bel⟩
      simp [results, Tryz.results65, go_sem, q0, q1]
  · subst h
    have e1 : (r - c) / 1 = r - c := Int.ediv_one _
    rw [e1] at q0 ⊢
    clear q1 e1
    have hbE : decide (b < 1099511627776) = false := decide_eq_false (by omega)
    go_enter Tryz.func65, Tryz.ntmps65
    go_wp2_with (first | (go_at_call 63; refine (within_any _ _ _ (by omega) (by omega) (by omega) (by omega) (by first | exact Nat.le_refl _ | (simp; done) | (simp; omega) | omega) (by go_simp) (by go_simp)).mono ?_; rintro e w' ⟨rfl, hb1⟩; obtain ⟨hc1, hf1⟩ := bcell hb1; have hz1 := hb1.size; (try simp at hz1); (try replace hz1 := Nat.lt_of_succ_le hz1)) | go_in)
    all_goals
      obtain ⟨q0, q1⟩ := set2 (W := w') (g := w.heap.size + 1 + 1) (x := .int .u64 0) (y := .int .u64 0) (u := .int .u64 (wiL 1 (r - c))) (v := .int .u64 (wiH 1 (r - c))) (by go_simp) (by go_simp)
      refine bodyPost_ret (v := .agg #[.int .u64 (wiL 1 (r - c)), .int .u64 (wiH 1 (r - c))]) ?_ rfl ⟨rfl, bel⟩
      simp [results, Tryz.results65, go_sem, q0, q1]
set_option maxHeartbeats 1000000 in
theorem counts_div (a b c d r : Int) (w : World) (ha : 1 ≤ a) (ha2 : a ≤ 1099511627776) (hb : 1 ≤ b) (hb2 : b < 1099511627776) (h1 : c ≤ r) (h2 : d < 1099511627776) (h3 : d < r) (h4 : r < 1099511627776) (hc : 0 ≤ c) (hc2 : c ≤ 1099511627776) (hd : 0 ≤ d) (hd2 : d ≤ 9223372036854775807) (hr : 0 ≤ r) (hr2 : r ≤ 1099511627776) (hw : 2 < w.heap.size) (g0 : w.cell? ⟨2, 0, none⟩ = some (.int .u64 1)) (g1 : w.cell? ⟨2, 1, none⟩ = some (.int .u64 0)) :
    Calls Tryz.prog 65 #[.agg #[.int .i64 a, .int .i64 b], .agg #[.int .i64 c, .int .i64 d], .int .i64 r] w fun e w' => e = .returned (.agg #[.int .u64 (wiL ((r - d + b - 1) / b) ((r - c) / a)), .int .u64 (wiH ((r - d + b - 1) / b) ((r - c) / a))]) ∧ Below w.heap.size w w' := by
  obtain ⟨hG1, hG2, hG3, hG4, hG5, hG6⟩ := glob_far hw g0; obtain ⟨hH1, hH2, hH3, hH4, hH5, hH6⟩ := glob_far hw g1
  have q0 := Int.ediv_nonneg (a := r - c) (b := a) (by omega) (by omega)
  have q1 : (r - c) / a ≤ r - c := Int.ediv_le_self _ (by omega)
  have p0 := Int.ediv_nonneg (a := r - d + b - 1) (b := b) (by omega) (by omega)
  have p1 : (r - d + b - 1) / b ≤ r - d + b - 1 := Int.ediv_le_self _ (by omega)
  rcases Int.le_iff_lt_or_eq.mp ha with h | h
  · rcases Int.le_iff_lt_or_eq.mp hb with h' | h'
    · have hbE : decide (b < 1099511627776) = true := decide_eq_true (by omega)
      go_enter Tryz.func65, Tryz.ntmps65
      go_wp2_with (first | (go_at_call 63; refine (within_any _ _ _ (by omega) (by omega) (by omega) (by omega) (by first | exact Nat.le_refl _ | (simp; done) | (simp; omega) | omega) (by go_simp) (by go_simp)).mono ?_; rintro e w' ⟨rfl, hb1⟩; obtain ⟨hc1, hf1⟩ := bcell hb1; have hz1 := hb1.size; (try simp at hz1); (try replace hz1 := Nat.lt_of_succ_le hz1)) | go_in)
      all_goals
        obtain ⟨q0, q1⟩ := set2 (W := w') (g := w.heap.size + 1 + 1) (x := .int .u64 0) (y := .int .u64 0) (u := .int .u64 (wiL ((r - d + b - 1) / b) ((r - c) / a))) (v := .int .u64 (wiH ((r - d + b - 1) / b) ((r - c) / a))) (by go_simp) (by go_simp)
        refine bodyPost_ret (v := .agg #[.int .u64 (wiL ((r - d + b - 1) / b) ((r - c) / a)), .int .u64 (wiH ((r - d + b - 1) / b) ((r - c) / a))]) ?_ rfl ⟨rfl, bel⟩
        simp [results, Tryz.results65, go_sem, q0, q1]
    · subst h'
      have e2 : r - d + 1 - 1 = r - d := by omega
      rw [Int.ediv_one] at p0 ⊢
      rw [e2] at p0 ⊢
      clear p1 e2
      go_enter Tryz.func65, Tryz.ntmps65
      go_wp2_with (first | (go_at_call 63; refine (within_any _ _ _ (by omega) (by omega) (by omega) (by omega) (by first | exact Nat.le_refl _ | (simp; done) | (simp; omega) | omega) (by go_simp) (by go_simp)).mono ?_; rintro e w' ⟨rfl, hb1⟩; obtain ⟨hc1, hf1⟩ := bcell hb1; have hz1 := hb1.size; (try simp at hz1); (try replace hz1 := Nat.lt_of_succ_le hz1)) | go_in)
      all_goals
        obtain ⟨q0, q1⟩ := set2 (W := w') (g := w.heap.size + 1 + 1) (x := .int .u64 0) (y := .int .u64 0) (u := .int .u64 (wiL (r - d) ((r - c) / a))) (v := .int .u64 (wiH (r - d) ((r - c) / a))) (by go_simp) (by go_simp)
        refine bodyPost_ret (v := .agg #[.int .u64 (wiL (r - d) ((r - c) / a)), .int .u64 (wiH (r - d) ((r - c) / a))]) ?_ rfl ⟨rfl, bel⟩
        simp [results, Tryz.results65, go_sem, q0, q1]
  · subst h
    rw [Int.ediv_one] at q0 ⊢
    clear q1
    rcases Int.le_iff_lt_or_eq.mp hb with h' | h'
    · have hbE : decide (b < 1099511627776) = true := decide_eq_true (by omega)
      go_enter Tryz.func65, Tryz.ntmps65
      go_wp2_with (first | (go_at_call 63; refine (within_any _ _ _ (by omega) (by omega) (by omega) (by omega) (by first | exact Nat.le_refl _ | (simp; done) | (simp; omega) | omega) (by go_simp) (by go_simp)).mono ?_; rintro e w' ⟨rfl, hb1⟩; obtain ⟨hc1, hf1⟩ := bcell hb1; have hz1 := hb1.size; (try simp at hz1); (try replace hz1 := Nat.lt_of_succ_le hz1)) | go_in)
      all_goals
        obtain ⟨q0, q1⟩ := set2 (W := w') (g := w.heap.size + 1 + 1) (x := .int .u64 0) (y := .int .u64 0) (u := .int .u64 (wiL ((r - d + b - 1) / b) (r - c))) (v := .int .u64 (wiH ((r - d + b - 1) / b) (r - c))) (by go_simp) (by go_simp)
        refine bodyPost_ret (v := .agg #[.int .u64 (wiL ((r - d + b - 1) / b) (r - c)), .int .u64 (wiH ((r - d + b - 1) / b) (r - c))]) ?_ rfl ⟨rfl, bel⟩
        simp [results, Tryz.results65, go_sem, q0, q1]
    · subst h'
      have e2 : r - d + 1 - 1 = r - d := by omega
      rw [Int.ediv_one] at p0 ⊢
      rw [e2] at p0 ⊢
      clear p1 e2
      go_enter Tryz.func65, Tryz.ntmps65
      go_wp2_with (first | (go_at_call 63; refine (within_any _ _ _ (by omega) (by omega) (by omega) (by omega) (by first | exact Nat.le_refl _ | (simp; done) | (simp; omega) | omega) (by go_simp) (by go_simp)).mono ?_; rintro e w' ⟨rfl, hb1⟩; obtain ⟨hc1, hf1⟩ := bcell hb1; have hz1 := hb1.size; (try simp at hz1); (try replace hz1 := Nat.lt_of_succ_le hz1)) | go_in)
      all_goals
        obtain ⟨q0, q1⟩ := set2 (W := w') (g := w.heap.size + 1 + 1) (x := .int .u64 0) (y := .int .u64 0) (u := .int .u64 (wiL (r - d) (r - c))) (v := .int .u64 (wiH (r - d) (r - c))) (by go_simp) (by go_simp)
        refine bodyPost_ret (v := .agg #[.int .u64 (wiL (r - d) (r - c)), .int .u64 (wiH (r - d) (r - c))]) ?_ rfl ⟨rfl, bel⟩
        simp [results, Tryz.results65, go_sem, q0, q1]
theorem counts_any (a b c d r : Int) (w : World) (ha : 1 ≤ a) (ha2 : a ≤ 1099511627776) (hb : 1 ≤ b) (hb2 : b ≤ 9223372036854775807) (hc : 0 ≤ c) (hc2 : c ≤ 1099511627776) (hd : 0 ≤ d) (hd2 : d ≤ 9223372036854775807) (hr : 0 ≤ r) (hr2 : r ≤ 1099511627776) (hw : 2 < w.heap.size) (g0 : w.cell? ⟨2, 0, none⟩ = some (.int .u64 1)) (g1 : w.cell? ⟨2, 1, none⟩ = some (.int .u64 0)) :
    Calls Tryz.prog 65 #[.agg #[.int .i64 a, .int .i64 b], .agg #[.int .i64 c, .int .i64 d], .int .i64 r] w fun e w' => e = .returned (.agg #[.int .u64 (cnL a b c d r), .int .u64 (cnH a b c d r)]) ∧ Below w.heap.size w w' := by
  obtain ⟨hG1, hG2, hG3, hG4, hG5, hG6⟩ := glob_far hw g0; obtain ⟨hH1, hH2, hH3, hH4, hH5, hH6⟩ := glob_far hw g1
  by_cases hn : cnNone b c d r
  · have e1 : cnL a b c d r = 1 := by unfold cnL; rw [if_pos hn]
    have e2 : cnH a b c d r = 0 := by unfold cnH; rw [if_pos hn]
    rw [e1, e2]
    exact counts_none a b c d r w hn hc hc2 hd hd2 hr hr2 hw g0 g1
  · have e1 : cnL a b c d r = wiL (cnLow b c d r) ((r - c) / a) := by unfold cnL cnHigh; rw [if_neg hn]
    have e2 : cnH a b c d r = wiH (cnLow b c d r) ((r - c) / a) := by unfold cnH cnHigh; rw [if_neg hn]
    rw [e1, e2]
    unfold cnNone at hn
    by_cases h1 : hasB c d r = true ∧ (r < 1099511627776 ∨ 1099511627776 ≤ d)
    · have e3 : cnLow b c d r = 0 := by unfold cnLow; rw [if_pos h1]
      rw [e3]
      have h2 := h1.1
      simp only [hasB, decide_eq_true_eq] at h2
      exact counts_in a b c d r w ha ha2 hb hb2 (by omega) h1.2 (by omega) hc hc2 hd hd2 hr hr2 hw g0 g1
    · have h2 : d < 1099511627776 ∧ d < r := by
        simp only [hasB, decide_eq_true_eq] at h1
        omega
      by_cases h3 : 1099511627776 ≤ b
      · have e3 : cnLow b c d r = 1 := by unfold cnLow; rw [if_neg h1, if_pos h3]
        rw [e3]
        exact counts_one a b c d r w ha ha2 hb hb2 (by omega) h2.1 h2.2 h3 hc hc2 hd hd2 hr hr2 hw g0 g1
      · have e3 : cnLow b c d r = (r - d + b - 1) / b := by unfold cnLow; rw [if_neg h1, if_neg h3]
        rw [e3]
        exact counts_div a b c d r w ha ha2 hb (by omega) (by omega) h2.1 h2.2 (by omega) hc hc2 hd hd2 hr hr2 hw g0 g1
end Go.Proofs.YtiohiiekaofkbaaGreatDoor
/- Wants of wtype: all numbers; counts of items. -/
namespace Go.Proofs.YtiohiiekaofkbaaGreatDoor
set_option linter.unusedVariables false
set_option linter.unusedSimpArgs false
open Go.RowKit
theorem Rd.cell {g : Nat} {w W : World} (h : Rd g w W) {B i : Nat} {v : Value} (hne : B ≠ g) (hc : w.cell? ⟨B, i, none⟩ = some v) : W.cell? ⟨B, i, none⟩ = some v :=
  (World.cell?_of_block (w := w) (h.block B (cell_lt hc) (fun e => hne (Option.some.inj e)))).trans hc
def rgI (a b r : Int) : List (Int × Int) := if chB a b r then [(0, 4294967295)] else []
set_option maxHeartbeats 1000000 in
theorem index1_walk (B : Nat) (a b r : Int) (W : World) (h0 : W.cell? ⟨B, 0, none⟩ = some (.int .i64 a)) (h1 : W.cell? ⟨B, 1, none⟩ = some (.int .i64 b)) :
    Calls Tryz.prog 89 #[.int .i64 r, .pointer (some ⟨B, 0, none⟩)] W (fun e w' => ∃ A c, e = .returned (.slice A (rgI a b r).length c) ∧ RowR w' A (rgI a b r) ∧ Below W.heap.size W w') := by
  rcases hc : chB a b r with _ | _
  · have e : rgI a b r = [] := by rw [rgI, hc]; rfl
    have HC := hid hc
    have HE := hid e
    clear hc e
    go_enter Tryz.func89, Tryz.ntmps89
    go_wp2_with (first | (go_at_call 90; refine (whas_any a b r _).mono ?_; rintro e w1 ⟨he, hb1⟩; rw [HC.out] at he; subst he))
    go_ret
    exact ⟨none, 0, by rw [HE.out]; rfl, .inl HE.out, hb1⟩
  · have e : rgI a b r = [(0, 4294967295)] := by rw [rgI, hc]; rfl
    have HC := hid hc
    have HE := hid e
    clear hc e
    go_enter Tryz.func89, Tryz.ntmps89
    go_wp2_with (first | (go_at_call 90; refine (whas_any a b r _).mono ?_; rintro e w1 ⟨he, hb1⟩; rw [HC.out] at he; subst he; (first | have hq1 := hz1 | have hq1 := True.intro); (first | have hq0 := hz0 | have hq0 := True.intro); obtain ⟨hcc, hff⟩ := bcell hb1; have hz1 := hb1.size; (try simp at hz1); (try have hy1 := Nat.lt_of_lt_of_le hq1 hz1); (try have hy0 := Nat.lt_of_lt_of_le hq0 hz1); (try replace hz1 := Nat.lt_of_succ_le hz1); (try have hz0 := Nat.lt_of_succ_lt hz1)))
    go_ret
    refine ⟨some ⟨w1.heap.size, 0, none⟩, 1, by rw [HE.out]; rfl, .inr ⟨_, rfl, ?_, ?_⟩, ?_⟩
    · simp
    · rw [HE.out]; intro i hi
      have : i = 0 := by simp at hi; omega
      subst this
      exact ⟨by go_simp, by go_simp, by simp, by simp, by simp, by simp⟩
    · exact bel
def rgL (a b c d r : Int) : List (Int × Int) := [(cnL a b c d r, cnH a b c d r)]
theorem wi_bd (lo hi : Int) : 0 ≤ wiL lo hi ∧ wiL lo hi ≤ 18446744073709551615 ∧ 0 ≤ wiH lo hi ∧ wiH lo hi ≤ 18446744073709551615 := by
  unfold wiL wiH; split <;> (try split) <;> omega
theorem cn_bd (a b c d r : Int) : 0 ≤ cnL a b c d r ∧ cnL a b c d r ≤ 18446744073709551615 ∧ 0 ≤ cnH a b c d r ∧ cnH a b c d r ≤ 18446744073709551615 := by
  unfold cnL cnH
  split
  · decide
  · exact wi_bd _ _
structure Glob (w : World) : Prop where
  size : 2 < w.heap.size
  c0 : w.cell? ⟨2, 0, none⟩ = some (.int .u64 1)
  c1 : w.cell? ⟨2, 1, none⟩ = some (.int .u64 0)
theorem Glob.of {w W : World} (h : Glob w) (hb : Below w.heap.size w W) : Glob W := ⟨Nat.lt_of_lt_of_le h.size hb.size, still hb h.c0, still hb h.c1⟩
theorem Glob.rd {g : Nat} {w W : World} (h : Glob w) (hne : 2 ≠ g) (hg : Rd g w W) : Glob W := ⟨Nat.lt_of_lt_of_le h.size hg.size, hg.cell hne h.c0, hg.cell hne h.c1⟩
theorem counts_glob (a b c d r : Int) (w : World) (ha : 1 ≤ a) (ha2 : a ≤ 1099511627776) (hb : 1 ≤ b) (hb2 : b ≤ 9223372036854775807) (hc : 0 ≤ c) (hc2 : c ≤ 1099511627776) (hd : 0 ≤ d) (hd2 : d ≤ 9223372036854775807) (hr : 0 ≤ r) (hr2 : r ≤ 1099511627776) (hG : Glob w) :
    Calls Tryz.prog 65 #[.agg #[.int .i64 a, .int .i64 b], .agg #[.int .i64 c, .int .i64 d], .int .i64 r] w fun e w' => e = .returned (.agg #[.int .u64 (cnL a b c d r), .int .u64 (cnH a b c d r)]) ∧ Below w.heap.size w w' :=
  counts_any a b c d r w ha ha2 hb hb2 hc hc2 hd hd2 hr hr2 hG.size hG.c0 hG.c1
set_option maxHeartbeats 1000000 in
theorem list1_walk (B C : Nat) (a b c d r : Int) (W : World) (ha : 1 ≤ a) (ha2 : a ≤ 1099511627776) (hb : 1 ≤ b) (hb2 : b ≤ 9223372036854775807) (hc : 0 ≤ c) (hc2 : c ≤ 1099511627776) (hd : 0 ≤ d) (hd2 : d ≤ 9223372036854775807) (hr : 0 ≤ r) (hr2 : r ≤ 1099511627776) (hG : Glob W)
    (h0 : W.cell? ⟨B, 0, none⟩ = some (.int .i64 a)) (h1 : W.cell? ⟨B, 1, none⟩ = some (.int .i64 b)) (k0 : W.cell? ⟨C, 0, none⟩ = some (.int .i64 c)) (k1 : W.cell? ⟨C, 1, none⟩ = some (.int .i64 d)) :
    Calls Tryz.prog 87 #[.int .i64 r, .pointer (some ⟨B, 0, none⟩), .pointer (some ⟨C, 0, none⟩)] W (fun e w' => ∃ A k, e = .returned (.slice A (rgL a b c d r).length k) ∧ RowR w' A (rgL a b c d r) ∧ Below W.heap.size W w') := by
  have HK := hid (fun w' => counts_glob a b c d r w' ha ha2 hb hb2 hc hc2 hd hd2 hr hr2)
  have HG := hid hG
  have HB := hid (cn_bd a b c d r)
  clear hG
  go_enter Tryz.func87, Tryz.ntmps87
  go_wp2_with (first | (go_at_call 65; refine (HK.out _ HG.out).mono ?_; rintro e w1 ⟨rfl, hb1⟩; (first | have hq1 := hz1 | have hq1 := True.intro); (first | have hq0 := hz0 | have hq0 := True.intro); obtain ⟨hcc, hff⟩ := bcell hb1; have hz1 := hb1.size; (try simp at hz1); (try have hy1 := Nat.lt_of_lt_of_le hq1 hz1); (try have hy0 := Nat.lt_of_lt_of_le hq0 hz1); (try replace hz1 := Nat.lt_of_succ_le hz1); (try have hz0 := Nat.lt_of_succ_lt hz1)))
  go_ret
  refine ⟨some ⟨w1.heap.size, 0, none⟩, 1, rfl, .inr ⟨_, rfl, ?_, ?_⟩, ?_⟩
  · simp
  · intro i hi
    have : i = 0 := by simp [rgL] at hi; omega
    subst this
    exact ⟨by simp only [rgL]; go_simp, by simp only [rgL]; go_simp, HB.out⟩
  · exact bel
theorem list_wants {g B C : Nat} {a b c d : Int} {w : World} (hgl : 2 ≠ g) (hne : B ≠ g) (hne2 : C ≠ g) (ha : 1 ≤ a) (ha2 : a ≤ 1099511627776) (hb : 1 ≤ b) (hb2 : b ≤ 9223372036854775807) (hc : 0 ≤ c) (hc2 : c ≤ 1099511627776) (hd : 0 ≤ d) (hd2 : d ≤ 9223372036854775807) (hG : Glob w)
    (h0 : w.cell? ⟨B, 0, none⟩ = some (.int .i64 a)) (h1 : w.cell? ⟨B, 1, none⟩ = some (.int .i64 b)) (k0 : w.cell? ⟨C, 0, none⟩ = some (.int .i64 c)) (k1 : w.cell? ⟨C, 1, none⟩ = some (.int .i64 d)) :
    Wants g 87 #[.pointer (some ⟨B, 0, none⟩), .pointer (some ⟨C, 0, none⟩)] w (rgL a b c d) :=
  ⟨enters Tryz.func87 (by kernel_rfl) rfl, fun r => by simp [rgL], fun r r0 r1 W hW => list1_walk B C a b c d r W ha ha2 hb hb2 hc hc2 hd hd2 r0 r1 (hG.rd hgl hW) (hW.cell hne h0) (hW.cell hne h1) (hW.cell hne2 k0) (hW.cell hne2 k1)⟩
end Go.Proofs.YtiohiiekaofkbaaGreatDoor
/- Try: something is done with a cursor; where it gives up is told. -/
namespace Go.Proofs.YtiohiiekaofkbaaGreatDoor
set_option linter.unusedVariables false
set_option linter.unusedSimpArgs false
open Go.RowKit
structure Off2 (B C : Nat) (w w' : World) : Prop where
  os : w'.os = w.os
  tape : w'.tape = w.tape
  output : w'.output = w.output
  size : w.heap.size ≤ w'.heap.size
  block : ∀ k, k < w.heap.size → k ≠ B → k ≠ C → w'.heap[k]? = w.heap[k]?
set_option maxHeartbeats 2000000 in
theorem try1_idle (a b : Addr) (w : World) :
    CallsD Tryz.prog 37 #[.pointer (some a), .pointer (some b)] .returning w fun e u' w' => e = .returned (.tuple #[]) ∧ u' = .returning ∧ w' = w := by
  refine callsD_of_wpS Tryz.func37 rfl fun c₀ cs hu => ?_
  apply wpS_seq
  apply wpS_region
  generalize hQ : Exit.thenS (Code.wpS _ _ _) _ = Q
  simp [wpOpsS, go_sem, recoverD, hu, Tryz.ntmps37]
  subst hQ
  simp only [Exit.thenS]
  refine wpS_of_wp ?_
  generalize hQ : (fun e a' w' => _) = Q
  simp only [Array.replicate_succ, Array.replicate_zero, List.push_toArray, List.append_toArray, List.setIfInBounds_toArray, List.set_cons_zero, List.set_cons_succ, List.nil_append, List.cons_append]
  go_wp2
  subst hQ
  cases c₀
  simp_all [bodyPostS, results, Tryz.results37]
theorem as_stop (v : Value) (xT : TypeId) (w : World) : (Instr.typeAssert (.iface 158 v) xT 158 true).run Tryz.prog w = .ok (.tuple #[v, .bool true]) w := by kernel_rfl
theorem off2_end {r r2 : Nat} {x y : Value} {w : World} (u v : Value) (o : Obj) (hne : r2 ≠ r) (h0 : w.cell? ⟨r, 0, none⟩ = some x) (h1 : w.cell? ⟨r2, 0, none⟩ = some y) :
    Off2 r r2 w ((((w.setCell ⟨r, 0, none⟩ u).setCell ⟨r2, 0, none⟩ v).alloc o).drew) ∧ ((((w.setCell ⟨r, 0, none⟩ u).setCell ⟨r2, 0, none⟩ v).alloc o).drew).cell? ⟨r, 0, none⟩ = some u ∧ ((((w.setCell ⟨r, 0, none⟩ u).setCell ⟨r2, 0, none⟩ v).alloc o).drew).cell? ⟨r2, 0, none⟩ = some v := by
  have z0 := cell_lt h0
  have z1 := cell_lt h1
  refine ⟨⟨rfl, rfl, rfl, by simp, fun k hk k0 k1 => ?_⟩, ?_, ?_⟩
  · have e : ∀ W : World, k < W.heap.size → (W.alloc o).heap[k]? = W.heap[k]? := fun W hW => ((Below.refl W.heap.size W).alloc (Nat.le_refl _) o).block k hW
    show (((w.setCell ⟨r, 0, none⟩ u).setCell ⟨r2, 0, none⟩ v).alloc o).heap[k]? = _
    rw [e _ (by simp; exact hk), heap_setCell_other _ _ _ _ k1, heap_setCell_other _ _ _ _ k0]
  · show (((w.setCell ⟨r, 0, none⟩ u).setCell ⟨r2, 0, none⟩ v).alloc o).cell? ⟨r, 0, none⟩ = some u
    rw [World.cell?_alloc_lt _ _ _ (by simp; exact z0), World.cell?_setCell_far _ _ _ _ (fun e => hne e)]
    apply World.cell?_setCell_same; exact h0
  · show (((w.setCell ⟨r, 0, none⟩ u).setCell ⟨r2, 0, none⟩ v).alloc o).cell? ⟨r2, 0, none⟩ = some v
    rw [World.cell?_alloc_lt _ _ _ (by simp; exact z1)]
    apply World.cell?_setCell_same
    rw [World.cell?_setCell_far _ _ _ _ (fun e => hne e.symm)]
    exact h1
set_option maxHeartbeats 2000000 in
theorem try1_stop (r r2 : Nat) (x y : Value) (p er : Int) (older : List PanicEntry) (w : World) (hne : r2 ≠ r) (h0 : w.cell? ⟨r, 0, none⟩ = some x) (h1 : w.cell? ⟨r2, 0, none⟩ = some y) (f0 : w.frozen? ⟨r, 0, none⟩ = false) (f1 : w.frozen? ⟨r2, 0, none⟩ = false) :
    CallsD Tryz.prog 37 #[.pointer (some ⟨r, 0, none⟩), .pointer (some ⟨r2, 0, none⟩)] (.panicking ({ v := stopV p er, recovered := false } :: older)) w fun e u' w' =>
      e = .returned (.tuple #[]) ∧ u' = .panicking ({ v := stopV p er, recovered := true } :: older) ∧ Off2 r r2 w w' ∧ w'.cell? ⟨r, 0, none⟩ = some (.int .i64 p) ∧ w'.cell? ⟨r2, 0, none⟩ = some (.int .i64 er) := by
  have hz0 := cell_lt h0
  have hz1 := cell_lt h1
  refine callsD_of_wpS Tryz.func37 rfl fun c₀ cs hu => ?_
  apply wpS_seq
  apply wpS_region
  generalize hQ : Exit.thenS (Code.wpS _ _ _) _ = Q
  simp [wpOpsS, go_sem, recoverD, hu, Tryz.ntmps37]
  subst hQ
  simp only [Exit.thenS]
  refine wpS_of_wp ?_
  generalize hQ : (fun e a' w' => _) = Q
  simp only [Array.replicate_succ, Array.replicate_zero, List.push_toArray, List.append_toArray, List.setIfInBounds_toArray, List.set_cons_zero, List.set_cons_succ, List.nil_append, List.cons_append]
  unfold stopV
  have HQ := hid hQ
  clear hQ
  have hA := as_stop
  go_upto_region 3 with (fail)
  go_wp2
  go_region
  have hQ := HQ.out
  have hO := off2_end (.int .i64 p) (.int .i64 er) (.cells #[.int .i64 p, .int .i64 er] 158) hne h0 h1
  subst hQ
  refine ⟨rfl, _, rfl, .tuple #[], ?_, rfl, rfl, hO⟩
  simp [results, Tryz.results37, go_sem]
theorem off2_set {r r2 : Nat} {x y : Value} {w : World} (u v : Value) (hne : r2 ≠ r) (h0 : w.cell? ⟨r, 0, none⟩ = some x) (h1 : w.cell? ⟨r2, 0, none⟩ = some y) :
    Off2 r r2 w ((w.setCell ⟨r, 0, none⟩ u).setCell ⟨r2, 0, none⟩ v) ∧ ((w.setCell ⟨r, 0, none⟩ u).setCell ⟨r2, 0, none⟩ v).cell? ⟨r, 0, none⟩ = some u ∧ ((w.setCell ⟨r, 0, none⟩ u).setCell ⟨r2, 0, none⟩ v).cell? ⟨r2, 0, none⟩ = some v := by
  refine ⟨⟨rfl, rfl, rfl, by simp, fun k hk k0 k1 => ?_⟩, ?_, ?_⟩
  · rw [heap_setCell_other _ _ _ _ k1, heap_setCell_other _ _ _ _ k0]
  · rw [World.cell?_setCell_far _ _ _ _ (fun e => hne e)]
    apply World.cell?_setCell_same; exact h0
  · apply World.cell?_setCell_same
    rw [World.cell?_setCell_far _ _ _ _ (fun e => hne e.symm)]
    exact h1
def Does (B : Nat) (A : Option Addr) (c : Nat) (l : List Int) (Dn : Int → World → Prop) (St : Int → Int → World → Prop) (W : World) (e : Ending) (w' : World) : Prop :=
  W.heap.size ≤ w'.heap.size ∧ (∀ i, i = B ∨ i = B + 1 → w'.heap[i]? = W.heap[i]?) ∧ ((e = .returned (.tuple #[]) ∧ ∃ p lim, Cu (B + 1 + 1) (.slice A l.length c) p lim w' ∧ Dn p w') ∨ (∃ p er, Stops p er e ∧ St p er w'))
set_option maxHeartbeats 4000000 in
theorem try_walk (A : Option Addr) (c : Nat) (l : List Int) (w : World) (k : Nat) (caps : Array Value) (Dn : Int → World → Prop) (St : Int → Int → World → Prop) (hE : Enters k)
    (hd : ∀ W, Below w.heap.size w W → W.heap.size = w.heap.size + 1 + 1 + 1 → Cu (w.heap.size + 1 + 1) (.slice A l.length c) 0 (-1) W → Calls Tryz.prog k (#[.pointer (some ⟨w.heap.size + 1 + 1, 0, none⟩)] ++ caps) W (Does w.heap.size A c l Dn St W)) :
    Calls Tryz.prog 12 #[.slice A l.length c, .func (.func k) #[] caps] w (fun e w'' => ∃ w', Off2 w.heap.size (w.heap.size + 1) w' w'' ∧ ((∃ p, e = .returned (.tuple #[.int .i64 p, .int .i64 0]) ∧ Dn p w') ∨ (∃ p er, e = .returned (.tuple #[.int .i64 p, .int .i64 er]) ∧ St p er w'))) := by
  have hmf : ∀ (fn : Fn) (first cap : Array Value) (w : World), (Instr.makeFunc fn first cap).run Tryz.prog w = .ok (.func fn first cap) w := fun _ _ _ _ => rfl
  have HD := hid hd
  have HE : ∀ (args : Array Value) (w : World), (callFunc k args).run Tryz.prog w = .ok (.enter k args) w := hE
  clear hd hE
  go_enter_defers Tryz.func12, Tryz.ntmps12
  go_upto_region 3 with (fail)
  have hB : Below w.heap.size w (((w.alloc (.cells #[.int .i64 0] 3)).alloc (.cells #[.int .i64 0] 69)).alloc (.cells #[.slice A l.length c, .int .i64 0, .int .i64 (-1)] 156)) := bel
  have hC := HD.out _ hB (by simp) ⟨by go_simp, by go_simp, by go_simp, by go_simp, by go_simp⟩
  have HC := hid hC
  clear hC
  have E0 := hid (show (((w.alloc (.cells #[.int .i64 0] 3)).alloc (.cells #[.int .i64 0] 69)).alloc (.cells #[.slice A l.length c, .int .i64 0, .int .i64 (-1)] 156)).cell? ⟨w.heap.size, 0, none⟩ = some (.int .i64 0) by go_simp)
  have E1 := hid (show (((w.alloc (.cells #[.int .i64 0] 3)).alloc (.cells #[.int .i64 0] 69)).alloc (.cells #[.slice A l.length c, .int .i64 0, .int .i64 (-1)] 156)).cell? ⟨w.heap.size + 1, 0, none⟩ = some (.int .i64 0) by go_simp)
  have Z0 := hid (show (((w.alloc (.cells #[.int .i64 0] 3)).alloc (.cells #[.int .i64 0] 69)).alloc (.cells #[.slice A l.length c, .int .i64 0, .int .i64 (-1)] 156)).frozen? ⟨w.heap.size, 0, none⟩ = false by go_simp)
  have Z1 := hid (show (((w.alloc (.cells #[.int .i64 0] 3)).alloc (.cells #[.int .i64 0] 69)).alloc (.cells #[.slice A l.length c, .int .i64 0, .int .i64 (-1)] 156)).frozen? ⟨w.heap.size + 1, 0, none⟩ = false by go_simp)
  clear hB
  go_wp2_with (first | ((with_reducible refine HC.out.mono ?_); rintro e w1 ⟨hz, hk, (⟨rfl, p, lim, hc, hdn⟩ | ⟨p, er, rfl, hst⟩)⟩ <;> (have k0 := (World.cell?_of_block (a := ⟨w.heap.size, 0, none⟩) (hk _ (.inl rfl))).trans E0.out; have k1 := (World.cell?_of_block (a := ⟨w.heap.size + 1, 0, none⟩) (hk _ (.inr rfl))).trans E1.out; have g0 := (World.frozen?_of_block (a := ⟨w.heap.size, 0, none⟩) (hk _ (.inl rfl))).trans Z0.out; have g1 := (World.frozen?_of_block (a := ⟨w.heap.size + 1, 0, none⟩) (hk _ (.inr rfl))).trans Z1.out; have HK := hid hk; clear hk; (try have c1 := hc.c1))))
  · refine leaves_cons (f := 37) (args := #[.pointer (some ⟨w.heap.size, 0, none⟩), .pointer (some ⟨w.heap.size + 1, 0, none⟩)]) (by simp) (by simp [go_sem]) ?_
    refine (try1_idle _ _ _).mono ?_
    rintro e u' w'' ⟨rfl, rfl, rfl⟩
    obtain ⟨hO, q0, q1⟩ := off2_set (.int .i64 p) (.int .i64 0) (by omega) k0 k1
    refine ⟨.tuple #[.int .i64 p, .int .i64 0], ?_, w1, hO, .inl ⟨p, rfl, hdn⟩⟩
    simp [results, Tryz.results12, go_sem, q0, q1]
  · refine leaves_cons (f := 37) (args := #[.pointer (some ⟨w.heap.size, 0, none⟩), .pointer (some ⟨w.heap.size + 1, 0, none⟩)]) (by simp) (by simp [go_sem]) ?_
    refine (try1_stop w.heap.size (w.heap.size + 1) _ _ p er _ _ (by omega) k0 k1 g0 g1).mono ?_
    rintro e u' w'' ⟨rfl, rfl, hO, q0, q1⟩
    refine ⟨.tuple #[.int .i64 p, .int .i64 er], ?_, w1, hO, .inr ⟨p, er, rfl, hst⟩⟩
    simp [results, Tryz.results12, go_sem, q0, q1]
end Go.Proofs.YtiohiiekaofkbaaGreatDoor
