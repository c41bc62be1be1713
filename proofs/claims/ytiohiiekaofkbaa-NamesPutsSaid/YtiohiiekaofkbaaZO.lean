/- Some texts of this seat in one. -/
import Derived.Test.YtiohiiekaofkbaaPNamesPutsx0
import Derived.Lib.SmallJoins
import Derived.SizedLaws
import Derived.ChangeOld
import Derived.ShutString
import Derived.ProofKit
import Derived.OpenShut
import Derived.Test.YtiohiiekaofkbaaR5
/- What comes in, opened by its type: numbers, texts, slices, structs; what reads as data holds no more than the reach. -/
namespace Go.Proofs.Ytiohiiekaofkbaa
set_option linter.unusedVariables false
set_option linter.unusedSimpArgs false
open Go.RowKit Go.Proofs.Ytiohiiekaofkbaa.PNamesPuts Go.Proofs.YtiohiiekaofkbaaW.PrintWords Go.ChangeShapes Go.WideShapes Go.Deep Go.Lib

section
variable {H : Type} {enc : TypeId × Value → H} {P : Program} {w : World} {base : Nat} {spare : Nat → Bool} {held : Bool} {α β : Type}

/-- what reads by type e is of kind k, and fine, where it holds no more than the reach -/
def Opn (enc : TypeId × Value → H) (P : Program) (w : World) (base : Nat) (spare : Nat → Bool) (held : Bool) (e : TypeId) (k : Kd α) (Fine : α → Prop) : Prop :=
  ∀ (n : Nat) (cs : List Value) (x : DataW H × List MemPlace), DataW.trod enc P w base spare held n e cs = some x → (∀ m ∈ x.1.weights P e, m ≤ 140737488351232) → ∃ y, k.K w y cs ∧ Fine y

theorem Opn.mono {e : TypeId} {k : Kd α} {F G : α → Prop} (h : Opn enc P w base spare held e k F) (hg : ∀ y, F y → G y) : Opn enc P w base spare held e k G := fun n cs x hx hw =>
  let ⟨y, h1, h2⟩ := h n cs x hx hw
  ⟨y, h1, hg y h2⟩
theorem opn_int {e : TypeId} {k : IntKind} (he : P.underlying e = some (.int k)) : Opn enc P w base spare held e (Kd.int k) (fun a => (Lit.int k a).wf = true) := fun n cs x hx _ => by
  obtain ⟨a, rfl, rfl, wa⟩ := DataW.trod_int he hx
  exact ⟨a, rfl, wa⟩
theorem opn_bool {e : TypeId} (he : P.underlying e = some .bool) : Opn enc P w base spare held e Kd.bool (fun _ => True) := fun n cs x hx _ => by
  obtain ⟨a, rfl, rfl⟩ := DataW.trod_bool he hx
  exact ⟨a, rfl, trivial⟩
theorem opn_string {e : TypeId} (he : P.underlying e = some .string) : Opn enc P w base spare held e Kd.string (fun s => s.size ≤ 140737488351232) := fun n cs x hx hw => by
  obtain ⟨s, rfl, rfl, ws⟩ := DataW.trod_string he hx
  refine ⟨s, rfl, ?_⟩
  have := hw s.data.toList.length (by simp [DataW.weights])
  rwa [Array.length_toList] at this
theorem weights_all {e : TypeId} {ds : List (DataW H)} {d : DataW H} (h : d ∈ ds) : ∀ m ∈ d.weights P e, m ∈ DataW.weightsAll P e ds := by
  induction ds with
  | nil => simp at h
  | cons a t ih =>
    intro m hm
    simp only [DataW.weightsAll, List.mem_append]
    rcases List.mem_cons.1 h with rfl | h
    · exact .inl hm
    · exact .inr (ih h m hm)
theorem opn_slice {t e : TypeId} {k : Kd α} {F : α → Prop} (ht : P.underlying t = some (.slice e)) (hc : P.cellsOf e = k.sz) {B : Nat} (hB : P.bytesOf e = B) (h : Opn enc P w base spare held e k F) :
    Opn enc P w base spare held t (Kd.slice e k) (fun l => l.length * B ≤ 140737488351232 ∧ ∀ y ∈ l, F y) := fun n cs x hx hw => by
  rcases open_slice ht hx with ⟨rfl, rfl⟩ | ⟨a, len, cap, m, n', D, Pl, rfl, hb, hl, hm, hmm, rfl, he⟩
  · exact ⟨[], ⟨none, 0, rfl, Nat.le_refl _, Kd.C_nil _ _⟩, by simp, fun y hy => by simp at hy⟩
  · have hlm : len ≤ m := by rw [hmm]; split <;> omega
    have hwe : ∀ i, i < len → ∀ q ∈ (D i).weights P e, q ≤ 140737488351232 := fun i hi q hq => hw q (by
      simp only [DataW.weights, ht, List.mem_cons, List.mem_append]
      exact .inr (.inl (weights_all (List.mem_map.2 ⟨i, List.mem_range.2 hi, rfl⟩) q hq)))
    have each : ∀ i, i < len → ∃ q : α × List Value, w.cells? base (a.add (i * P.cellsOf e)) (P.cellsOf e) = some q.2 ∧ k.K w q.1 q.2 ∧ F q.1 := fun i hi => by
      obtain ⟨cs', h1, h2⟩ := he i (by omega)
      obtain ⟨y, hy1, hy2⟩ := h n' cs' _ h2 (hwe i hi)
      exact ⟨(y, cs'), h1, hy1, hy2⟩
    rcases Nat.eq_zero_or_pos len with h0 | hpos
    · subst h0
      exact ⟨[], ⟨some a, cap, rfl, by simp, ⟨rfl, by simp, fun h => absurd h (Nat.lt_irrefl 0)⟩⟩, by simp, fun y hy => by simp at hy⟩
    · obtain ⟨q0, _⟩ := each 0 hpos
      have : Nonempty (α × List Value) := ⟨q0⟩
      have each' : ∀ i, ∃ q : α × List Value, i < len → w.cells? base (a.add (i * P.cellsOf e)) (P.cellsOf e) = some q.2 ∧ k.K w q.1 q.2 ∧ F q.1 := fun i => by
        by_cases hi : i < len
        · obtain ⟨q, hq⟩ := each i hi; exact ⟨q, fun _ => hq⟩
        · exact ⟨q0, fun h => absurd h hi⟩
      obtain ⟨Q, hQ⟩ := Classical.axiomOfChoice each'
      refine ⟨(List.range len).map fun i => (Q i).1, ⟨some a, cap, by simp, by simpa using hl, ?_⟩, ?_, ?_⟩
      · refine ⟨rfl, ?_, fun _ => ⟨a, rfl, ?_⟩⟩
        · simp; unfold maxLen at hm; omega
        · intro j p hj
          rw [List.getElem?_map] at hj
          obtain ⟨i, hi, rfl⟩ := Option.map_eq_some_iff.1 hj
          obtain ⟨hlt, rfl⟩ : j < len ∧ i = j := by
            rcases Nat.lt_or_ge j len with h2 | h2
            · rw [List.getElem?_range h2] at hi
              exact ⟨h2, (Option.some.inj hi).symm⟩
            · rw [List.getElem?_eq_none (by simpa using h2)] at hi
              cases hi
          obtain ⟨h1, h2, _⟩ := hQ i hlt
          obtain ⟨_, hlen, hcell⟩ := World.cells?_some h1
          refine ⟨(Q i).2, by rw [hlen, hc], h2, fun r u hu => ?_⟩
          have hr : r < P.cellsOf e := by
            have := (List.getElem?_eq_some_iff.1 hu).1
            omega
          have := hcell r hr
          rw [Go.Deep.add_add, hc] at this
          rw [this, hu]
      · have := hw ((((List.range len).map D).length + ((List.range (m - len)).map fun j => D (len + j)).length) * P.bytesOf e) (by simp [DataW.weights, ht])
        rw [hB] at this
        refine Nat.le_trans (Nat.mul_le_mul_right _ ?_) this
        simp
      · intro y hy
        obtain ⟨i, hi, rfl⟩ := List.mem_map.1 hy
        exact (hQ i (List.mem_range.1 hi)).2.2
theorem weights_fst {ts : List TypeId} {f : TypeId} {d : DataW H} {ds : List (DataW H)} : ∀ m ∈ d.weights P f, m ∈ DataW.weightsEach P (f :: ts) (d :: ds) := fun m hm => by
  simp only [DataW.weightsEach, List.mem_append]; exact .inl hm
theorem weights_rest {ts : List TypeId} {f : TypeId} {d : DataW H} {ds : List (DataW H)} : ∀ m ∈ DataW.weightsEach P ts ds, m ∈ DataW.weightsEach P (f :: ts) (d :: ds) := fun m hm => by
  simp only [DataW.weightsEach, List.mem_append]; exact .inr hm
theorem opn_pair {e : TypeId} {f0 f1 : Field} {k0 : Kd α} {k1 : Kd β} {F0 : α → Prop} {F1 : β → Prop} (he : P.underlying e = some (.struct #[f0, f1])) (o0 : f0.offset = 0) (o1 : f1.offset = k0.sz)
    (c0 : P.cellsOf f0.type = k0.sz) (c1 : P.cellsOf f1.type = k1.sz) (ce : P.cellsOf e = k0.sz + k1.sz) (h0 : Opn enc P w base spare held f0.type k0 F0) (h1 : Opn enc P w base spare held f1.type k1 F1) :
    Opn enc P w base spare held e (Kd.pair k0 k1) (fun y => F0 y.1 ∧ F1 y.2) := fun n cs x hx hw => by
  obtain ⟨y0, y1, n', rfl, hlen, g0, g1⟩ := trod_struct2 he hx
  have hw' : ∀ m ∈ DataW.weightsEach P [f0.type, f1.type] [y0.1, y1.1], m ≤ 140737488351232 := fun m hm => hw m (by simpa [DataW.weights, he] using hm)
  obtain ⟨a, ha, fa⟩ := h0 _ _ _ g0 (fun m hm => hw' m (weights_fst m hm))
  obtain ⟨b, hb, fb⟩ := h1 _ _ _ g1 (fun m hm => hw' m (weights_rest m (weights_fst m hm)))
  refine ⟨(a, b), ⟨_, _, ?_, ha, hb⟩, fa, fb⟩
  rw [o0, o1, c0, c1, List.drop_zero]
  have : (cs.drop k0.sz).take k1.sz = cs.drop k0.sz := List.take_of_length_le (by rw [List.length_drop]; omega)
  rw [this, List.take_append_drop]
theorem opn_iso {e : TypeId} {k : Kd α} (f : β → α) (g : α → β) (hfg : ∀ a, f (g a) = a) {F : α → Prop} (h : Opn enc P w base spare held e k F) : Opn enc P w base spare held e (Kd.iso k f) (fun y => F (f y)) := fun n cs x hx hw => by
  obtain ⟨a, ha, fa⟩ := h n cs x hx hw
  exact ⟨g a, by show k.K w (f (g a)) cs; rw [hfg]; exact ha, by show F (f (g a)); rw [hfg]; exact fa⟩
end

/-- a name's index and text -/
def fineN (x : S41) : Prop := (Lit.int .u32 x.f0).wf = true ∧ x.f1.size ≤ 140737488351232
def fineNs (l : List S41) : Prop := l.length * 24 ≤ 140737488351232 ∧ ∀ y ∈ l, fineN y
def fineL (x : S43) : Prop := (Lit.int .u32 x.f0).wf = true ∧ fineNs x.f1
def fineLs (l : List S43) : Prop := l.length * 32 ≤ 140737488351232 ∧ ∀ y ∈ l, fineL y
section
variable {H : Type} {enc : TypeId × Value → H} {w : World} {base : Nat} {spare : Nat → Bool} {held : Bool}
theorem opn_rName : Opn enc Try.prog w base spare held 41 k41 fineN :=
  opn_iso (fun x : S41 => (x.f0, x.f1)) (fun a => ⟨a.1, a.2⟩) (fun _ => rfl) (opn_pair (k0 := Kd.int .u32) (k1 := Kd.string) Try.underlying41 rfl rfl (by kernel_rfl) (by kernel_rfl) (by kernel_rfl) (opn_int Try.underlying39) (opn_string Try.underlying9))
theorem opn_rNames : Opn enc Try.prog w base spare held 22 (Kd.slice 41 k41) fineNs := opn_slice (k := k41) Try.underlying22 (by kernel_rfl) (B := 24) (by kernel_rfl) opn_rName
theorem opn_rLocal : Opn enc Try.prog w base spare held 43 k43 fineL :=
  opn_iso (fun x : S43 => (x.f0, x.f1)) (fun a => ⟨a.1, a.2⟩) (fun _ => rfl) (opn_pair (k0 := Kd.int .u32) (k1 := Kd.slice 41 k41) Try.underlying43 rfl rfl (by kernel_rfl) (by kernel_rfl) (by kernel_rfl) (opn_int Try.underlying39) opn_rNames)
theorem opn_rLocals : Opn enc Try.prog w base spare held 23 (Kd.slice 43 k43) fineLs := opn_slice (k := k43) Try.underlying23 (by kernel_rfl) (B := 32) (by kernel_rfl) opn_rLocal
end
end Go.Proofs.Ytiohiiekaofkbaa

/- Names as they come in, opened. -/
namespace Go.Proofs.Ytiohiiekaofkbaa
set_option linter.unusedVariables false
set_option linter.unusedSimpArgs false
open Go.RowKit Go.Proofs.Ytiohiiekaofkbaa.PNamesPuts Go.Proofs.YtiohiiekaofkbaaW.PrintWords Go.ChangeShapes Go.WideShapes Go.Deep Go.Lib

def rNs.fine (x : rNs) : Prop := x.md.size ≤ 140737488351232 ∧ fineNs x.fs ∧ fineLs x.ls
theorem array6 {α : Type} {cs : Array α} (h : cs.size = 6) : ∃ c0 c1 c2 c3 c4 c5, cs = #[c0, c1, c2, c3, c4, c5] := by
  obtain ⟨l⟩ := cs
  match l, h with
  | [c0, c1, c2, c3, c4, c5], _ => exact ⟨c0, c1, c2, c3, c4, c5, rfl⟩
theorem open_rNames {H : Type} {enc : TypeId × Value → H} {W : World} {base b0 : Nat} {spare : Nat → Bool} {held : Bool} {r : Reach} {v : Value} {d : DataW H} {p : List MemPlace}
    (hv : Value.okWide Try.prog W r b0 25 v) (h : DataW.Trod enc Try.prog W base spare held 25 v d p) (hw : ∀ m ∈ d.weights Try.prog 25, m ≤ 140737488351232) :
    ∃ (x : rNs) (A : Option Addr) (c : Nat) (B : Option Addr) (e : Nat), v = .agg #[.bool x.hm, .bool x.hf, .bool x.hl, .string x.md, .slice A x.fs.length c, .slice B x.ls.length e] ∧ x.at A c B e W ∧ x.fine := by
  obtain ⟨cs, rfl, hsz⟩ := okWide_struct Try.underlying25 hv
  have hC : Try.prog.cellsOf 25 = 6 := by kernel_rfl
  obtain ⟨c0, c1, c2, c3, c4, c5, rfl⟩ := array6 (hsz.trans hC)
  obtain ⟨fuel, hf⟩ := h
  obtain ⟨xs, n, _, hx, _, hlen, hg⟩ := DataW.trod_struct Try.underlying25 hf
  match xs, hlen with
  | [y0, y1, y2, y3, y4, y5], _ =>
    simp only [Prod.mk.injEq] at hx
    obtain ⟨hd, _⟩ := hx
    subst hd
    have hw' : ∀ m ∈ DataW.weightsEach Try.prog [4, 4, 4, 9, 22, 23] [y0.1, y1.1, y2.1, y3.1, y4.1, y5.1], m ≤ 140737488351232 := fun m hm => hw m (by simpa [DataW.weights, Try.underlying25] using hm)
    have k4 : Try.prog.cellsOf 4 = 1 := by kernel_rfl
    have k9 : Try.prog.cellsOf 9 = 1 := by kernel_rfl
    have kN : Try.prog.cellsOf 22 = 1 := by kernel_rfl
    have kL : Try.prog.cellsOf 23 = 1 := by kernel_rfl
    have g0 := hg 0 _ rfl
    have g1 := hg 1 _ rfl
    have g2 := hg 2 _ rfl
    have g3 := hg 3 _ rfl
    have g4 := hg 4 _ rfl
    have g5 := hg 5 _ rfl
    simp [Value.cells, k4, k9, kN, kL] at g0 g1 g2 g3 g4 g5
    obtain ⟨b0', h0, _⟩ := opn_bool Try.underlying4 _ _ _ g0 (fun m hm => hw' m (weights_fst m hm))
    obtain ⟨b1', h1, _⟩ := opn_bool Try.underlying4 _ _ _ g1 (fun m hm => hw' m (weights_rest m (weights_fst m hm)))
    obtain ⟨b2', h2, _⟩ := opn_bool Try.underlying4 _ _ _ g2 (fun m hm => hw' m (weights_rest m (weights_rest m (weights_fst m hm))))
    obtain ⟨s, h3, f3⟩ := opn_string Try.underlying9 _ _ _ g3 (fun m hm => hw' m (weights_rest m (weights_rest m (weights_rest m (weights_fst m hm)))))
    obtain ⟨fs, ⟨A, c, h4, l4, r4⟩, f4⟩ := opn_rNames _ _ _ g4 (fun m hm => hw' m (weights_rest m (weights_rest m (weights_rest m (weights_rest m (weights_fst m hm))))))
    obtain ⟨ls, ⟨B, e, h5, l5, r5⟩, f5⟩ := opn_rLocals _ _ _ g5 (fun m hm => hw' m (weights_rest m (weights_rest m (weights_rest m (weights_rest m (weights_rest m (weights_fst m hm)))))))
    obtain rfl := List.cons.inj h0 |>.1
    obtain rfl := List.cons.inj h1 |>.1
    obtain rfl := List.cons.inj h2 |>.1
    obtain rfl := List.cons.inj h3 |>.1
    obtain rfl := List.cons.inj h4 |>.1
    obtain rfl := List.cons.inj h5 |>.1
    exact ⟨⟨b0', b1', b2', s, fs, ls⟩, A, c, B, e, rfl, ⟨r4, l4, r5, l5⟩, f3, f4, f5⟩
end Go.Proofs.Ytiohiiekaofkbaa
