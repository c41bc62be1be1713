/- The statement SpanFits where its guards let nothing in; what a slice of ranges that came in gives. -/
import Derived.Test.YtlpocahflolmpaaDoorF2
import Derived.Test.YtlpocahflolmpaaDoorR0
import Derived.Deep.Slices
import Derived.Deep.Fields
import Derived.Laws.IdiomArrays
import Derived.Carry
namespace Go.Proofs.YtlpocahflolmpaaDoor
set_option linter.unusedVariables false
set_option linter.unusedSimpArgs false
open Go.ChangeShapes Go.WideShapes Go.ChangeAt Go.RowKit Go.Joins Go.Deep

set_option maxRecDepth 100000 in
set_option maxHeartbeats 4000000 in
theorem fits_r_no (A : Option Addr) (c : Nat) (l : List (Int × Int)) (low d0 d1 d2 : Int) (w : World) (hlen : (l.length : Int) ≤ 9223372036854775807) (hlo : 0 ≤ low) (hlo1 : low ≤ 18446744073709551615)
    (a0 : 0 ≤ d0) (a1 : d0 ≤ 255) (b0 : 0 ≤ d1) (b1 : d1 ≤ 255) (c0 : 0 ≤ d2) (c1 : d2 ≤ 255) (h : ¬ (l.length ≤ 20 ∧ low < 2 ^ (d0 % 64).toNat)) :
    Calls Tryd.prog 4 #[.slice A l.length c, .int .u64 low, .agg #[.int .u8 d0, .int .u8 d1, .int .u8 d2]] w (fun e w' => e = .returned (.bool true) ∧ Below w.heap.size w w') := by
  by_cases h20 : l.length ≤ 20
  · have hge : 2 ^ (d0 % 64).toNat ≤ low := by
      have : ¬ low < 2 ^ (d0 % 64).toNat := fun q => h ⟨h20, q⟩
      omega
    have hp := (pow_bd (n := d0 % 64) (by omega) (by omega)).1
    have q0 : (low / 2 ^ (d0 % 64).toNat != 0) = true := by
      have : 1 ≤ low / 2 ^ (d0 % 64).toNat := (Int.le_ediv_iff_mul_le (by omega)).2 (by omega)
      simp; omega
    clear h hge hp
    go_enter Tryd.func4, Tryd.ntmps4
    go_wp2
    go_quiet (fail)
    go_wp2
    go_ret
    exact ⟨rfl, dNn ((Below.refl _ _).alloc (Nat.le_refl _) _)⟩
  · clear h
    go_enter Tryd.func4, Tryd.ntmps4
    go_wp2
    go_quiet (fail)
    go_wp2
    go_ret
    exact ⟨rfl, dNn ((Below.refl _ _).alloc (Nat.le_refl _) _)⟩

theorem fits_r_walk (A : Option Addr) (c : Nat) (l : List (Int × Int)) (low d0 d1 d2 : Int) (w : World) (hC : Came w A l) (hG : Glob w) (hlen : (l.length : Int) ≤ 9223372036854775807) (hlo : 0 ≤ low) (hlo1 : low ≤ 18446744073709551615)
    (a0 : 0 ≤ d0) (a1 : d0 ≤ 255) (b0 : 0 ≤ d1) (b1 : d1 ≤ 255) (c0 : 0 ≤ d2) (c1 : d2 ≤ 255) :
    Calls Tryd.prog 4 #[.slice A l.length c, .int .u64 low, .agg #[.int .u8 d0, .int .u8 d1, .int .u8 d2]] w (fun e w' => e = .returned (.bool true) ∧ Below w.heap.size w w') := by
  by_cases h : l.length ≤ 20 ∧ low < 2 ^ (d0 % 64).toNat
  · exact fits_r_yes A c l low d0 d1 d2 w (hid hC) hG h.1 hlo hlo1 a0 a1 b0 b1 c0 c1 h.2
  · exact fits_r_no A c l low d0 d1 d2 w hlen hlo hlo1 a0 a1 b0 b1 c0 c1 h

theorem c39 : Tryd.prog.cellsOf 39 = 2 := by kernel_rfl
theorem c5 : Tryd.prog.cellsOf 5 = 1 := by kernel_rfl
theorem c37 : Tryd.prog.cellsOf 37 = 3 := by kernel_rfl
theorem laidOut : laidOutB Tryd.prog = true := by kernel_rfl

section
variable {H : Type} {enc : TypeId × Value → H} {P : Program} {w : World} {base : Nat} {spare : Nat → Bool} {held : Bool}
theorem open_slice_fields {t e : TypeId} {fs : Array Field} {fuel : Nat} {cs : List Value} {x : DataW H × List MemPlace} (ht : P.underlying t = some (.slice e)) (he : P.underlying e = some (.struct fs))
    (hone : oneCellFields P fs = true) (hC : P.cellsOf e = fs.size) (h : DataW.trod enc P w base spare held fuel t cs = some x) :
    (cs = [.slice none 0 0] ∧ x = (.nil, [])) ∨
    ∃ (a : Addr) (len cap m : Nat) (D : Nat → DataW H) (Pl : Nat → List MemPlace), cs = [.slice (some a) len cap] ∧ base ≤ a.block ∧ len ≤ cap ∧ cap ≤ maxLen ∧ m = (if spare a.block then cap else len) ∧
      x = (.slice ((List.range len).map D) ((List.range (m - len)).map fun j => D (len + j)), MemPlace.row a (m * fs.size) ++ (List.range m).flatMap Pl) ∧
      ∀ i, i < m → ∃ (ys : List (DataW H × List MemPlace)) (n : Nat), D i = .agg (ys.map (·.1)) ∧ Pl i = ys.flatMap (·.2) ∧ ys.length = fs.size ∧
        ∀ (j : Nat) (f : Field), fs[j]? = some f → ∃ (v : Value) (y : DataW H × List MemPlace), w.cell? (a.add (i * fs.size + j)) = some v ∧ ys[j]? = some y ∧ DataW.trod enc P w base spare held n f.type [v] = some y := by
  rcases open_slice ht h with h0 | ⟨a, len, cap, m, n, D, Pl, hcs, hb, hl, hm, hmm, hx, hi⟩
  · exact .inl h0
  · refine .inr ⟨a, len, cap, m, D, Pl, hcs, hb, hl, hm, hmm, by rw [hC] at hx; exact hx, fun i him => ?_⟩
    obtain ⟨cs', hc, ht'⟩ := hi i him
    rw [hC] at hc
    obtain ⟨ys, n', hn', hy, hlen, hyl, hf⟩ := DataW.trod_struct he ht'
    obtain ⟨_, hcl, hat⟩ := World.cells?_some hc
    simp only [Prod.mk.injEq] at hy
    refine ⟨ys, n', hy.1, hy.2, hyl, fun j f hj => ?_⟩
    obtain ⟨ho, hk⟩ := hone_of hone j f hj
    have hjl : j < fs.size := (Array.getElem?_eq_some_iff.1 hj).1
    have hcell := hat j hjl
    have hv : cs'[j]? = some (cs'[j]'(by omega)) := List.getElem?_eq_getElem (by omega)
    have h1 := hf j f hj
    rw [ho, hk] at h1
    have hone' : (cs'.drop j).take 1 = [cs'[j]'(by omega)] := by
      rw [List.drop_eq_getElem_cons (by omega)]
      rfl
    rw [hone'] at h1
    have hys : ys[j]? = some (ys[j]'(by omega)) := List.getElem?_eq_getElem (by omega)
    refine ⟨_, _, ?_, hys, h1.trans hys⟩
    rw [← Go.Deep.add_add, hcell, hv]
end

theorem came_of {H : Type} {enc : TypeId × Value → H} {W : World} {base : Nat} {v : Value} {d : DataW H} {p : List MemPlace} (hval : Value.okWide Tryd.prog W .any base 36 v)
    (h : DataW.Trod enc Tryd.prog W 0 (fun _ => true) true 36 v d p) : ∃ A c l, v = .slice A l.length c ∧ Came W A l ∧ (l.length : Int) ≤ 9223372036854775807 := by
  obtain ⟨a1, len, cap, rfl⟩ := okWide_slice Tryd.underlying36 hval
  obtain ⟨fuel, hf⟩ := h
  rcases open_slice_fields Tryd.underlying36 Tryd.underlying39 (by kernel_rfl) (by kernel_rfl) hf with ⟨hcs, hx⟩ | ⟨a, len', cap', m, D, Pl, hcs, _, hl, hm, hmm, hx, hf2⟩
  · simp [Value.cells] at hcs
    obtain ⟨rfl, rfl, rfl⟩ := hcs
    exact ⟨none, 0, [], rfl, ⟨fun i h => by simp at h, fun h => absurd rfl h⟩, by simp⟩
  · simp [Value.cells] at hcs
    obtain ⟨rfl, rfl, rfl⟩ := hcs
    simp only [if_true] at hmm
    unfold maxLen at hm
    have hone : ∀ i, ∃ x : Int × Int, i < len → W.cell? (a.add (i * 2)) = some (.int .u64 x.1) ∧ W.cell? (a.add (i * 2 + 1)) = some (.int .u64 x.2) ∧ 0 ≤ x.1 ∧ x.1 ≤ 18446744073709551615 ∧ 0 ≤ x.2 ∧ x.2 ≤ 18446744073709551615 := by
      intro i
      by_cases hi : i < len
      · obtain ⟨ys, n, _, _, _, hfj⟩ := hf2 i (by omega)
        obtain ⟨v0, y0, hc0, _, ht0⟩ := hfj 0 _ rfl
        obtain ⟨v1, y1, hc1, _, ht1⟩ := hfj 1 _ rfl
        obtain ⟨n0, e0, _, w0⟩ := DataW.trod_int Tryd.underlying25 ht0
        obtain ⟨n1, e1, _, w1⟩ := DataW.trod_int Tryd.underlying25 ht1
        simp at e0 e1
        subst e0 e1
        have r0 := bounds_u64 w0
        have r1 := bounds_u64 w1
        exact ⟨(n0, n1), fun _ => ⟨hc0, hc1, r0.1, r0.2, r1.1, r1.2⟩⟩
      · exact ⟨(0, 0), fun h => absurd h hi⟩
    obtain ⟨f, hch⟩ : ∃ f : Nat → Int × Int, ∀ i, i < len → W.cell? (a.add (i * 2)) = some (.int .u64 (f i).1) ∧ W.cell? (a.add (i * 2 + 1)) = some (.int .u64 (f i).2) ∧ 0 ≤ (f i).1 ∧ (f i).1 ≤ 18446744073709551615 ∧ 0 ≤ (f i).2 ∧ (f i).2 ≤ 18446744073709551615 :=
      ⟨fun i => Classical.choose (hone i), fun i => Classical.choose_spec (hone i)⟩
    refine ⟨some a, cap, (List.range len).map f, by simp, ⟨fun i hi => ?_, fun hne => ?_⟩, by simp; omega⟩
    · have hi' : i < len := by simpa using hi
      have := hch i hi'
      simp only [List.getElem_map, List.getElem_range]
      exact this.2.2
    · have hpos : 0 < len := by
        rcases Nat.eq_zero_or_pos len with h0 | h0
        · subst h0; simp at hne
        · exact h0
      obtain ⟨ab, ao, spot⟩ := a
      have hspot : spot = none := by
        have := World.cell?_spot (hch 0 hpos).1
        simpa [Addr.add] using this
      subst hspot
      have hb := World.block_lt_of_cell? W _ (hch 0 hpos).1
      refine ⟨ab, ao, rfl, by simpa [Addr.add] using hb, fun i hi => ?_⟩
      have hi' : i < len := by simpa using hi
      have := hch i hi'
      rw [Addr.add_lit, Addr.add_lit] at this
      simp only [List.getElem_map, List.getElem_range]
      exact ⟨this.1, by rw [Nat.add_assoc]; exact this.2.1⟩

theorem open_three {H : Type} {enc : TypeId × Value → H} {W : World} {base : Nat} {v : Value} {d : DataW H} {p : List MemPlace} (hval : Value.okWide Tryd.prog W .any base 37 v)
    (h : DataW.Trod enc Tryd.prog W 0 (fun _ => true) true 37 v d p) : ∃ d0 d1 d2 : Int, v = .agg #[.int .u8 d0, .int .u8 d1, .int .u8 d2] ∧ 0 ≤ d0 ∧ d0 ≤ 255 ∧ 0 ≤ d1 ∧ d1 ≤ 255 ∧ 0 ≤ d2 ∧ d2 ≤ 255 := by
  have hv : ∃ cs, v = .agg cs ∧ cs.size = 3 := by
    simp only [Value.okWide, Tryd.underlying37] at hval
    obtain ⟨cs, e, hs, _⟩ := hval
    exact ⟨cs, e, by rw [hs]; exact c37⟩
  obtain ⟨⟨cs⟩, rfl, hsz⟩ := hv
  match cs, hsz with
  | [x0, x1, x2], _ =>
    obtain ⟨fuel, hf⟩ := h
    obtain ⟨y0, y1, y2, n, _, h0, h1, h2⟩ := trod_array3 Tryd.underlying37 c5 (by simpa [Value.cells] using hf)
    obtain ⟨n0, e0, _, w0⟩ := DataW.trod_int Tryd.underlying5 h0
    obtain ⟨n1, e1, _, w1⟩ := DataW.trod_int Tryd.underlying5 h1
    obtain ⟨n2, e2, _, w2⟩ := DataW.trod_int Tryd.underlying5 h2
    simp at e0 e1 e2
    subst e0 e1 e2
    have r0 := bounds_u8 w0
    have r1 := bounds_u8 w1
    have r2 := bounds_u8 w2
    exact ⟨n0, n1, n2, rfl, r0.1, r0.2, r1.1, r1.2, r2.1, r2.2⟩

end Go.Proofs.YtlpocahflolmpaaDoor
