/- What comes in, opened by its type: numbers, texts, slices, structs; what reads as data holds no more than the reach. -/
import Derived.Test.YtiohiiekaofkbaaDoorPCursorPlacesx0
import Derived.WideShapes
import Derived.Lib.SmallJoins
import Derived.SizedLaws
import Derived.ChangeOld
import Derived.ShutString
import Derived.ProofKit
import Derived.OpenShut
namespace Go.Proofs.YtiohiiekaofkbaaDoor
set_option linter.unusedVariables false
set_option linter.unusedSimpArgs false
open Go.RowKit Go.Proofs.YtiohiiekaofkbaaDoor.PCursorPlaces Go.Proofs.YtiohiiekaofkbaaDoorW.PrintWords Go.ChangeShapes Go.WideShapes Go.Deep Go.Lib

section
variable {H : Type} {enc : TypeId × Value → H} {P : Program} {w : World} {base : Nat} {spare : Nat → Bool} {held : Bool} {α β : Type}

/-- what reads by type e is of kind k, and fine, where it holds no more than the reach -/
def Opn (enc : TypeId × Value → H) (P : Program) (w : World) (base : Nat) (spare : Nat → Bool) (held : Bool) (e : TypeId) (k : Kd α) (Fine : α → Prop) : Prop :=
  ∀ (n : Nat) (cs : List Value) (x : DataW H × List MemPlace), DataW.trod enc P w base spare held n e cs = some x → (∀ m ∈ x.1.weights P e, m ≤ 140737488351232) → ∃ y, k.K w y cs ∧ Fine y

theorem Opn.mono {e : TypeId} {k : Kd α} {F G : α → Prop} (h : Opn enc P w base spare held e k F) (hg : ∀ y, F y → G y) : Opn enc P w base spare held e k G := fun n cs x hx hw =>
  let ⟨y, h1, h2⟩ := h n cs x hx hw
  ⟨y, h1, hg y h2⟩
theorem opn_int {e : TypeId} {k : IntKind} (he : P.underlying e = some (.int k)) : Opn enc P w base spare held e (Kd.int k) (fun a => (Lit.int k a).wf = true) := fun n cs x hx _ => by
  obtain ⟨a, rfl, rfl, wa⟩ := DataW.trod_int he hx
  exact ⟨a, rfl, wa⟩
theorem opn_bool {e : TypeId} (he : P.underlying e = some .bool) : Opn enc P w base spare held e Kd.bool (fun _ => True) := fun n cs x hx _ => by
  obtain ⟨a, rfl, rfl⟩ := DataW.trod_bool he hx
  exact ⟨a, rfl, trivial⟩
theorem opn_string {e : TypeId} (he : P.underlying e = some .string) : Opn enc P w base spare held e Kd.string (fun s => s.size ≤ 140737488351232) := fun n cs x hx hw => by
  obtain ⟨s, rfl, rfl, ws⟩ := DataW.trod_string he hx
  refine ⟨s, rfl, ?_⟩
  have := hw s.data.toList.length (by simp [DataW.weights])
  rwa [Array.length_toList] at this
theorem weights_all {e : TypeId} {ds : List (DataW H)} {d : DataW H} (h : d ∈ ds) : ∀ m ∈ d.weights P e, m ∈ DataW.weightsAll P e ds := by
  induction ds with
  | nil => simp at h
  | cons a t ih =>
    intro m hm
    simp only [DataW.weightsAll, List.mem_append]
    rcases List.mem_cons.1 h with rfl | h
    · exact .inl hm
    · exact .inr (ih h m hm)
theorem opn_slice {t e : TypeId} {k : Kd α} {F : α → Prop} (ht : P.underlying t = some (.slice e)) (hc : P.cellsOf e = k.sz) {B : Nat} (hB : P.bytesOf e = B) (h : Opn enc P w base spare held e k F) :
    Opn enc P w base spare held t (Kd.slice e k) (fun l => l.length * B ≤ 140737488351232 ∧ ∀ y ∈ l, F y) := fun n cs x hx hw => by
  rcases open_slice ht hx with ⟨rfl, rfl⟩ | ⟨a, len, cap, m, n', D, Pl, rfl, hb, hl, hm, hmm, rfl, he⟩
  · exact ⟨[], ⟨none, 0, rfl, Nat.le_refl _, Kd.C_nil _ _⟩, by simp, fun y hy => by simp at hy⟩
  · have hlm : len ≤ m := by rw [hmm]; split <;> omega
    have hwe : ∀ i, i < len → ∀ q ∈ (D i).weights P e, q ≤ 140737488351232 := fun i hi q hq => hw q (by
      simp only [DataW.weights, ht, List.mem_cons, List.mem_append]
      exact .inr (.inl (weights_all (List.mem_map.2 ⟨i, List.mem_range.2 hi, rfl⟩) q hq)))
    have each : ∀ i, i < len → ∃ q : α × List Value, w.cells? base (a.add (i * P.cellsOf e)) (P.cellsOf e) = some q.2 ∧ k.K w q.1 q.2 ∧ F q.1 := fun i hi => by
      obtain ⟨cs', h1, h2⟩ := he i (by omega)
      obtain ⟨y, hy1, hy2⟩ := h n' cs' _ h2 (hwe i hi)
      exact ⟨(y, cs'), h1, hy1, hy2⟩
    rcases Nat.eq_zero_or_pos len with h0 | hpos
    · subst h0
      exact ⟨[], ⟨some a, cap, rfl, by simp, ⟨rfl, by simp, fun h => absurd h (Nat.lt_irrefl 0)⟩⟩, by simp, fun y hy => by simp at hy⟩
    · obtain ⟨q0, _⟩ := each 0 hpos
      have : Nonempty (α × List Value) := ⟨q0⟩
      have each' : ∀ i, ∃ q : α × List Value, i < len → w.cells? base (a.add (i * P.cellsOf e)) (P.cellsOf e) = some q.2 ∧ k.K w q.1 q.2 ∧ F q.1 := fun i => by
        by_cases hi : i < len
        · obtain ⟨q, hq⟩ := each i hi; exact ⟨q, fun _ => hq⟩
        · exact ⟨q0, fun h => absurd h hi⟩
      obtain ⟨Q, hQ⟩ := Classical.axiomOfChoice each'
      refine ⟨(List.range len).map fun i => (Q i).1, ⟨some a, cap, by simp, by simpa using hl, ?_⟩, ?_, ?_⟩
      · refine ⟨rfl, ?_, fun _ => ⟨a, rfl, ?_⟩⟩
        · simp; unfold maxLen at hm; omega
        · intro j p hj
          rw [List.getElem?_map] at hj
          obtain ⟨i, hi, rfl⟩ := Option.map_eq_some_iff.1 hj
          obtain ⟨hlt, rfl⟩ : j < len ∧ i = j := by
            rcases Nat.lt_or_ge j len with h2 | h2
            · rw [List.getElem?_range h2] at hi
              exact ⟨h2, (Option.some.inj hi).symm⟩
            · rw [List.getElem?_eq_none (by simpa using h2)] at hi
              cases hi
          obtain ⟨h1, h2, _⟩ := hQ i hlt
          obtain ⟨_, hlen, hcell⟩ := World.cells?_some h1
          refine ⟨(Q i).2, by rw [hlen, hc], h2, fun r u hu => ?_⟩
          have hr : r < P.cellsOf e := by
            have := (List.getElem?_eq_some_iff.1 hu).1
            omega
          have := hcell r hr
          rw [Go.Deep.add_add, hc] at this
          rw [this, hu]
      · have := hw ((((List.range len).map D).length + ((List.range (m - len)).map fun j => D (len + j)).length) * P.bytesOf e) (by simp [DataW.weights, ht])
        rw [hB] at this
        refine Nat.le_trans (Nat.mul_le_mul_right _ ?_) this
        simp
      · intro y hy
        obtain ⟨i, hi, rfl⟩ := List.mem_map.1 hy
        exact (hQ i (List.mem_range.1 hi)).2.2
theorem weights_fst {ts : List TypeId} {f : TypeId} {d : DataW H} {ds : List (DataW H)} : ∀ m ∈ d.weights P f, m ∈ DataW.weightsEach P (f :: ts) (d :: ds) := fun m hm => by
  simp only [DataW.weightsEach, List.mem_append]; exact .inl hm
theorem weights_rest {ts : List TypeId} {f : TypeId} {d : DataW H} {ds : List (DataW H)} : ∀ m ∈ DataW.weightsEach P ts ds, m ∈ DataW.weightsEach P (f :: ts) (d :: ds) := fun m hm => by
  simp only [DataW.weightsEach, List.mem_append]; exact .inr hm
theorem opn_pair {e : TypeId} {f0 f1 : Field} {k0 : Kd α} {k1 : Kd β} {F0 : α → Prop} {F1 : β → Prop} (he : P.underlying e = some (.struct #[f0, f1])) (o0 : f0.offset = 0) (o1 : f1.offset = k0.sz)
    (c0 : P.cellsOf f0.type = k0.sz) (c1 : P.cellsOf f1.type = k1.sz) (ce : P.cellsOf e = k0.sz + k1.sz) (h0 : Opn enc P w base spare held f0.type k0 F0) (h1 : Opn enc P w base spare held f1.type k1 F1) :
    Opn enc P w base spare held e (Kd.pair k0 k1) (fun y => F0 y.1 ∧ F1 y.2) := fun n cs x hx hw => by
  obtain ⟨y0, y1, n', rfl, hlen, g0, g1⟩ := trod_struct2 he hx
  have hw' : ∀ m ∈ DataW.weightsEach P [f0.type, f1.type] [y0.1, y1.1], m ≤ 140737488351232 := fun m hm => hw m (by simpa [DataW.weights, he] using hm)
  obtain ⟨a, ha, fa⟩ := h0 _ _ _ g0 (fun m hm => hw' m (weights_fst m hm))
  obtain ⟨b, hb, fb⟩ := h1 _ _ _ g1 (fun m hm => hw' m (weights_rest m (weights_fst m hm)))
  refine ⟨(a, b), ⟨_, _, ?_, ha, hb⟩, fa, fb⟩
  rw [o0, o1, c0, c1, List.drop_zero]
  have : (cs.drop k0.sz).take k1.sz = cs.drop k0.sz := List.take_of_length_le (by rw [List.length_drop]; omega)
  rw [this, List.take_append_drop]
theorem opn_iso {e : TypeId} {k : Kd α} (f : β → α) (g : α → β) (hfg : ∀ a, f (g a) = a) {F : α → Prop} (h : Opn enc P w base spare held e k F) : Opn enc P w base spare held e (Kd.iso k f) (fun y => F (f y)) := fun n cs x hx hw => by
  obtain ⟨a, ha, fa⟩ := h n cs x hx hw
  exact ⟨g a, by show k.K w (f (g a)) cs; rw [hfg]; exact ha, by show F (f (g a)); rw [hfg]; exact fa⟩
end


theorem kc3 : Tryd.prog.cellsOf 3 = 1 := by kernel_rfl
theorem kc5 : Tryd.prog.cellsOf 5 = 1 := by kernel_rfl
theorem kcu64 : Tryd.prog.cellsOf 111 = 1 := by kernel_rfl
theorem kcSp : Tryd.prog.cellsOf 149 = 2 := by kernel_rfl
theorem kcP : Tryd.prog.cellsOf 150 = 1 := by kernel_rfl
theorem kcW : Tryd.prog.cellsOf 152 = 10 := by kernel_rfl
def fineSp (x : S149) : Prop := (Lit.int .i64 x.f0).wf = true ∧ (Lit.int .i64 x.f1).wf = true
def finePk (x : S157) : Prop := (Lit.int .u64 x.f0).wf = true ∧ fineSp x.f1
def finePks (l : List S157) : Prop := l.length * 24 ≤ 140737488351232 ∧ ∀ y ∈ l, finePk y
def fineW (x : S152) : Prop := (Lit.int .i64 x.f0).wf = true ∧ (Lit.int .u64 x.f1).wf = true ∧ (Lit.int .u64 x.f2).wf = true ∧ fineSp x.f3 ∧ fineSp x.f4 ∧ fineSp x.f5 ∧ finePks x.f6
def fineAk (x : S154) : Prop := (Lit.int .u8 x.f0).wf = true ∧ (Lit.int .i64 x.f1).wf = true ∧ (Lit.int .u8 x.f2).wf = true ∧ (Lit.int .u8 x.f3).wf = true ∧ fineW x.f4
def fineAks (l : List S154) : Prop := l.length * 120 ≤ 140737488351232 ∧ ∀ y ∈ l, fineAk y
section
variable {H : Type} {enc : TypeId × Value → H} {w : World} {base : Nat} {spare : Nat → Bool} {held : Bool}
theorem opn_rSpan : Opn enc Tryd.prog w base spare held 149 k149 fineSp :=
  opn_iso (fun x : S149 => (x.f0, x.f1)) (fun a => ⟨a.1, a.2⟩) (fun _ => rfl) (opn_pair (k0 := Kd.int .i64) (k1 := Kd.int .i64) Tryd.underlying149 rfl rfl (by kernel_rfl) (by kernel_rfl) (by kernel_rfl) (opn_int Tryd.underlying3) (opn_int Tryd.underlying3))
theorem opn_Pick : Opn enc Tryd.prog w base spare held 157 k157 finePk :=
  opn_iso (fun x : S157 => (x.f0, x.f1)) (fun a => ⟨a.1, a.2⟩) (fun _ => rfl) (opn_pair (k0 := Kd.int .u64) (k1 := k149) Tryd.underlying157 rfl rfl (by kernel_rfl) (by kernel_rfl) (by kernel_rfl) (opn_int Tryd.underlying111) opn_rSpan)
theorem opn_picks : Opn enc Tryd.prog w base spare held 150 (Kd.slice 157 k157) finePks := opn_slice (k := k157) Tryd.underlying150 (by kernel_rfl) (B := 24) (by kernel_rfl) opn_Pick
set_option maxRecDepth 100000 in
theorem opn_rWant : Opn enc Tryd.prog w base spare held 152 k152 fineW := fun fuel cs x hx hw => by
  obtain ⟨xs, n, _, hx, hcl, hlen, hg⟩ := DataW.trod_struct Tryd.underlying152 hx
  have hC : Tryd.prog.cellsOf 152 = 10 := by kernel_rfl
  rw [hC] at hcl
  match cs, hcl, xs, hlen with
  | [c0, c1, c2, c3, c4, c5, c6, c7, c8, c9], _, [y0, y1, y2, y3, y4, y5, y6], _ =>
    subst hx
    have hw' : ∀ m ∈ DataW.weightsEach Tryd.prog [3, 111, 111, 149, 149, 149, 150] [y0.1, y1.1, y2.1, y3.1, y4.1, y5.1, y6.1], m ≤ 140737488351232 := fun m hm => hw m (by simpa [DataW.weights, Tryd.underlying152] using hm)
    have g0 := hg 0 _ rfl
    have g1 := hg 1 _ rfl
    have g2 := hg 2 _ rfl
    have g3 := hg 3 _ rfl
    have g4 := hg 4 _ rfl
    have g5 := hg 5 _ rfl
    have g6 := hg 6 _ rfl
    simp [kc3, kc5, kcu64, kcSp, kcP, kcW] at g0 g1 g2 g3 g4 g5 g6
    obtain ⟨a0, e0, f0⟩ := opn_int Tryd.underlying3 _ _ _ g0 (fun m hm => hw' m (weights_fst m hm))
    obtain rfl := List.cons.inj e0 |>.1
    obtain ⟨a1, e1, f1⟩ := opn_int Tryd.underlying111 _ _ _ g1 (fun m hm => hw' m (weights_rest m (weights_fst m hm)))
    obtain rfl := List.cons.inj e1 |>.1
    obtain ⟨a2, e2, f2⟩ := opn_int Tryd.underlying111 _ _ _ g2 (fun m hm => hw' m (weights_rest m (weights_rest m (weights_fst m hm))))
    obtain rfl := List.cons.inj e2 |>.1
    obtain ⟨a3, e3, f3⟩ := opn_rSpan _ _ _ g3 (fun m hm => hw' m (weights_rest m (weights_rest m (weights_rest m (weights_fst m hm)))))
    have e3 := k149_open e3
    simp only [List.cons.injEq, and_true] at e3
    obtain ⟨rfl, rfl⟩ := e3
    obtain ⟨a4, e4, f4⟩ := opn_rSpan _ _ _ g4 (fun m hm => hw' m (weights_rest m (weights_rest m (weights_rest m (weights_rest m (weights_fst m hm))))))
    have e4 := k149_open e4
    simp only [List.cons.injEq, and_true] at e4
    obtain ⟨rfl, rfl⟩ := e4
    obtain ⟨a5, e5, f5⟩ := opn_rSpan _ _ _ g5 (fun m hm => hw' m (weights_rest m (weights_rest m (weights_rest m (weights_rest m (weights_rest m (weights_fst m hm)))))))
    have e5 := k149_open e5
    simp only [List.cons.injEq, and_true] at e5
    obtain ⟨rfl, rfl⟩ := e5
    obtain ⟨a6, ⟨Aq, cq, e6, lq, gq⟩, f6⟩ := opn_picks _ _ _ g6 (fun m hm => hw' m (weights_rest m (weights_rest m (weights_rest m (weights_rest m (weights_rest m (weights_rest m (weights_fst m hm))))))))
    obtain rfl := List.cons.inj e6 |>.1
    exact ⟨⟨a0, a1, a2, a3, a4, a5, a6⟩, k152_mk w ⟨a0, a1, a2, a3, a4, a5, a6⟩ lq gq, ⟨f0, f1, f2, f3, f4, f5, f6⟩⟩
set_option maxRecDepth 100000 in
theorem opn_Ask : Opn enc Tryd.prog w base spare held 154 k154 fineAk := fun fuel cs x hx hw => by
  obtain ⟨xs, n, _, hx, hcl, hlen, hg⟩ := DataW.trod_struct Tryd.underlying154 hx
  have hC : Tryd.prog.cellsOf 154 = 14 := by kernel_rfl
  rw [hC] at hcl
  match cs, hcl, xs, hlen with
  | [c0, c1, c2, c3, c4, c5, c6, c7, c8, c9, c10, c11, c12, c13], _, [y0, y1, y2, y3, y4], _ =>
    subst hx
    have hw' : ∀ m ∈ DataW.weightsEach Tryd.prog [5, 3, 5, 5, 152] [y0.1, y1.1, y2.1, y3.1, y4.1], m ≤ 140737488351232 := fun m hm => hw m (by simpa [DataW.weights, Tryd.underlying154] using hm)
    have g0 := hg 0 _ rfl
    have g1 := hg 1 _ rfl
    have g2 := hg 2 _ rfl
    have g3 := hg 3 _ rfl
    have g4 := hg 4 _ rfl
    simp [kc3, kc5, kcu64, kcSp, kcP, kcW] at g0 g1 g2 g3 g4
    obtain ⟨a0, e0, f0⟩ := opn_int Tryd.underlying5 _ _ _ g0 (fun m hm => hw' m (weights_fst m hm))
    obtain rfl := List.cons.inj e0 |>.1
    obtain ⟨a1, e1, f1⟩ := opn_int Tryd.underlying3 _ _ _ g1 (fun m hm => hw' m (weights_rest m (weights_fst m hm)))
    obtain rfl := List.cons.inj e1 |>.1
    obtain ⟨a2, e2, f2⟩ := opn_int Tryd.underlying5 _ _ _ g2 (fun m hm => hw' m (weights_rest m (weights_rest m (weights_fst m hm))))
    obtain rfl := List.cons.inj e2 |>.1
    obtain ⟨a3, e3, f3⟩ := opn_int Tryd.underlying5 _ _ _ g3 (fun m hm => hw' m (weights_rest m (weights_rest m (weights_rest m (weights_fst m hm)))))
    obtain rfl := List.cons.inj e3 |>.1
    obtain ⟨a4, e4, f4⟩ := opn_rWant _ _ _ g4 (fun m hm => hw' m (weights_rest m (weights_rest m (weights_rest m (weights_rest m (weights_fst m hm))))))
    obtain ⟨Aq, cq, e4, lq, gq⟩ := k152_open e4
    simp only [List.cons.injEq, and_true] at e4
    obtain ⟨rfl, rfl, rfl, rfl, rfl, rfl, rfl, rfl, rfl, rfl⟩ := e4
    exact ⟨⟨a0, a1, a2, a3, a4⟩, k154_mk w ⟨a0, a1, a2, a3, a4⟩ lq gq, ⟨f0, f1, f2, f3, f4⟩⟩
theorem opn_asks : Opn enc Tryd.prog w base spare held 93 (Kd.slice 154 k154) fineAks := opn_slice (k := k154) Tryd.underlying93 (by kernel_rfl) (B := 120) (by kernel_rfl) opn_Ask
end
theorem block_of {P : Program} {W : World} {r : Reach} {base : Nat} {t e : TypeId} {a : Addr} {len cap : Nat} (hu : P.underlying t = some (.slice e)) (h : Value.okWide P W r base t (.slice (some a) len cap)) : a.block < W.heap.size := by
  unfold Value.okWide at h
  rw [hu] at h
  simp only at h
  unfold Cell.okWide Cell.ok at h
  rw [hu] at h
  simp only at h
  obtain ⟨_, _, _, _, row, cells, hs, _⟩ := h
  unfold World.shape? at hs
  rcases hh : W.heap[a.block]? with _ | o
  · rw [hh] at hs; simp at hs
  · exact (Array.getElem?_eq_some_iff.1 hh).1
end Go.Proofs.YtiohiiekaofkbaaDoor
