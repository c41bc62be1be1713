/- The statement LebBack: what is put is taken as it was. Its parts. -/
import Derived.Test.YtlpocahflolmpaaT0
namespace Go.Proofs.Ytlpocahflolmpaa
set_option linter.unusedVariables false
set_option linter.unusedSimpArgs false
open Go.RowKit

theorem Own.base {w : World} {b B : Nat} {v : Value} {l : List Int} (h : Own w B v l) (hb : b ≤ B) : Own w b v l := by
  rcases h.2 with h0 | ⟨g, cap, cur, e1, e2, e3, e4⟩
  · exact ⟨h.1, .inl h0⟩
  · exact ⟨h.1, .inr ⟨g, cap, cur, e1, Nat.le_trans hb e2, e3, e4⟩⟩

/-- digits of a number of 64 bits that are put -/
structure UOk (v : Int) (U : List Int) : Prop where
  dig : ∃ D x, Digits U D x
  is : val U = v
  least : (uL v).length ≤ U.length
structure SOk (v : Int) (U : List Int) : Prop where
  dig : ∃ D x, Digits U D x
  is : sv U = v
  least : (sL v).length ≤ U.length
theorem rU_ok {v m : Int} (h0 : 0 ≤ v) (hm : 0 ≤ m) : UOk v (rU v m) := by
  obtain ⟨D, y, h1, h2, h3⟩ := rU_digits v m h0 hm
  exact ⟨⟨D, y, h1⟩, h2, by omega⟩
theorem rS_ok {v m : Int} (hm : 0 ≤ m) : SOk v (rS v m) := by
  obtain ⟨D, y, h1, h2, h3⟩ := rS_digits v m hm
  exact ⟨⟨D, y, h1⟩, h2, by omega⟩
theorem dig_bytes {L D : List Int} {x : Int} (h : Digits L D x) : ∀ z ∈ L, 0 ≤ z ∧ z < 256 := by
  obtain ⟨rfl, q1, q2, q3⟩ := h
  intro z hz
  rcases List.mem_append.1 hz with h | h
  · have := q1 z h; omega
  · simp at h; omega
theorem dig_pos {L D : List Int} {x : Int} (h : Digits L D x) : 1 ≤ L.length := by obtain ⟨rfl, _⟩ := h; simp

theorem UOk.take {v : Int} {U : List Int} (h : UOk v U) (h0 : 0 ≤ v) (h1 : v ≤ 18446744073709551615) (hl : U.length ≤ 10) (T : List Int) : uT 64 (U ++ T) = (v, (U.length : Int), 0) := by
  obtain ⟨D, x, hd⟩ := h.dig
  have h2 := take_U hd h.is h0 h1 hl T
  unfold uT
  rw [h2]
  simp [h.is]
  omega
theorem UOk.cut {v : Int} {U : List Int} (h : UOk v U) (hl : U.length ≤ 10) {k : Nat} (hk : k < U.length) : uT 64 (U.take k) = (0, (k : Int), 1) := by
  obtain ⟨D, x, hd⟩ := h.dig
  unfold uT
  rw [take_cut hd hl hk]
  simp
theorem SOk.take {v : Int} {U : List Int} (h : SOk v U) (h0 : -9223372036854775808 ≤ v) (h1 : v ≤ 9223372036854775807) (hl : U.length ≤ 10) (T : List Int) : sT 64 (U ++ T) = (v, (U.length : Int), 0) := by
  obtain ⟨D, x, hd⟩ := h.dig
  have h2 := (take_S hd h.is h0 h1 hl T).1
  unfold sT
  rw [h2]
  simp [h.is]
theorem SOk.cut {v : Int} {U : List Int} (h : SOk v U) (hl : U.length ≤ 10) {k : Nat} (hk : k < U.length) : sT 64 (U.take k) = (0, (k : Int), 1) := by
  obtain ⟨D, x, hd⟩ := h.dig
  unfold sT
  rw [take_cut hd hl hk]
  simp

/-- behind 'append([]byte{}, xs...)' -/
theorem Own.first {w wr w1 : World} {base : Nat} {o : Obj} {v v1 : Value} {l : List Int} (hB : Below base w wr) (hs : base ≤ wr.heap.size) (hv : ∀ k, v.ownBlock = some k → base ≤ k)
    {n : Nat} (h1 : w1.ownsRow base 5 1 v1 n ([] ++ bv l)) (hn : n = l.length) (hg : (wr.alloc o).grownBy w1 v.ownBlock) : Own w1 base v1 l ∧ Below base w w1 ∧ base ≤ w1.heap.size := by
  refine ⟨?_, ?_, ?_⟩
  · subst hn; unfold Own; simpa using h1
  · exact (hB.alloc hs o).grown hg (by simp; omega) hv
  · have := hg.size; simp at this; omega

theorem lit_empty (w : World) (base : Nat) (hb : base ≤ w.heap.size) : (w.alloc (.cells #[] 5)).ownsRow base 5 1 (.slice (some ⟨w.heap.size, 0, none⟩) 0 0) 0 [] := World.ownsRow_lit w #[] 0 hb (by decide) rfl

theorem lit_block {base h : Nat} (hb : base ≤ h) (n c : Nat) : ∀ k, (Value.slice (some ⟨h, 0, none⟩) n c).ownBlock = some k → base ≤ k := by
  intro k hk; simp [Value.ownBlock] at hk; omega

theorem one_cell (b : Int) : ∀ u ∈ [Value.int .u8 b], u.oneCell' = true := by intro u hu; simp at hu; subst hu; rfl
theorem app_bytes {l : List Int} {b : Int} (h : ∀ z ∈ l, 0 ≤ z ∧ z < 256) (b0 : 0 ≤ b) (b1 : b ≤ 255) : ∀ z ∈ l ++ [b], 0 ≤ z ∧ z < 256 := by
  intro z hz; rcases List.mem_append.1 hz with q | q
  · exact h z q
  · simp at q; omega

/-- an own row, written out -/
def OwnAt (w : World) (base : Nat) (g cap : Nat) (l : List Int) : Prop := Own w base (.slice (some ⟨g, 0, none⟩) l.length cap) l
theorem OwnAt.keep {w w' : World} {base g cap : Nat} {l : List Int} (h : OwnAt w base g cap l) (hb : Below w.heap.size w w') : OwnAt w' base g cap l := Own.keep h hb
theorem OwnAt.src {w : World} {base g cap : Nat} {l : List Int} (h : OwnAt w base g cap l) : Src w w.heap.size (some ⟨g, 0, none⟩) cap l := Own.src h
/-- what of it lies at its begin -/
theorem OwnAt.came {w : World} {base g cap : Nat} {l : List Int} (h : OwnAt w base g cap l) (hl : ∀ z ∈ l, 0 ≤ z ∧ z < 256) (k : Nat) : Came w w.heap.size (some ⟨g, 0, none⟩) cap (l.take k) := by
  refine ⟨.inr ⟨_, rfl, fun _ => (World.ownsRow.lt h g rfl).2, fun j u hu => ?_⟩, fun z hz => hl z (List.mem_of_mem_take hz)⟩
  refine h.cells (g := g) rfl j u ?_
  rw [show bv (l.take k) = (bv l).take k by simp [bv]] at hu
  rw [List.getElem?_take] at hu
  split at hu
  · exact hu
  · cases hu

theorem OwnAt.cap_le {w : World} {base g cap : Nat} {l : List Int} (h : OwnAt w base g cap l) (hp : 0 < l.length) : l.length ≤ cap := by
  rcases h.2 with ⟨e1, e2⟩ | ⟨g', cap', cur, e1, e2, e3, e4, _⟩
  · omega
  · injection e1 with q1 q2 q3
    omega
theorem OwnAt.all {w : World} {base g cap : Nat} {l : List Int} (h : OwnAt w base g cap l) (hl : ∀ z ∈ l, 0 ≤ z ∧ z < 256) : Came w w.heap.size (some ⟨g, 0, none⟩) cap l := by
  have := h.came hl l.length
  rwa [List.take_length] at this
theorem UOk.bytes {v : Int} {U : List Int} (h : UOk v U) : ∀ z ∈ U, 0 ≤ z ∧ z < 256 := by obtain ⟨D, x, hd⟩ := h.dig; exact dig_bytes hd
theorem SOk.bytes {v : Int} {U : List Int} (h : SOk v U) : ∀ z ∈ U, 0 ≤ z ∧ z < 256 := by obtain ⟨D, x, hd⟩ := h.dig; exact dig_bytes hd

theorem putU_nil {w : World} {v m : Int} {U : List Int} (h0 : 0 ≤ v) (h1 : v ≤ 18446744073709551615) (hm0 : 0 ≤ m) (hm1 : m ≤ 10) (hU : rU v m = U) (B : Nat) (hB : B ≤ w.heap.size) :
    Calls Try.prog 9 #[.slice none 0 0, .int .u64 v, .int .i64 m] w (fun e w' => ∃ g cap, e = .returned (.slice (some ⟨g, 0, none⟩) U.length cap) ∧ OwnAt w' B g cap U ∧ Below w.heap.size w w') := by
  subst hU
  have hp := rU_pos v m
  have hl : (rU v m).length ≤ 20 := by
    obtain ⟨D, y, _, _, e⟩ := rU_digits v m h0 hm0
    have := uL_len10 h0 h1
    omega
  refine (refPutU w none 0 [] v m h0 h1 hm0 (by omega) (.inl ⟨rfl, rfl, rfl⟩) (by simp; omega)).mono ?_
  rintro e w' ⟨x, rfl, hown, hbel, hsz⟩
  rw [List.nil_append] at hown
  obtain ⟨g, cap, rfl, hg0, hg1⟩ := hown.form (by omega)
  exact ⟨g, cap, rfl, Own.base hown hB, hbel⟩
theorem putS_nil {w : World} {v m : Int} {U : List Int} (h0 : -9223372036854775808 ≤ v) (h1 : v ≤ 9223372036854775807) (hm0 : 0 ≤ m) (hm1 : m ≤ 10) (hU : rS v m = U) (B : Nat) (hB : B ≤ w.heap.size) :
    Calls Try.prog 10 #[.slice none 0 0, .int .i64 v, .int .i64 m] w (fun e w' => ∃ g cap, e = .returned (.slice (some ⟨g, 0, none⟩) U.length cap) ∧ OwnAt w' B g cap U ∧ Below w.heap.size w w') := by
  subst hU
  have hp := rS_pos v m
  have hl : (rS v m).length ≤ 20 := by
    obtain ⟨D, y, _, _, e⟩ := rS_digits v m hm0
    have := sL_len10 h0 h1
    omega
  refine (refPutS w none 0 [] v m h0 h1 hm0 (by omega) (.inl ⟨rfl, rfl, rfl⟩) (by simp; omega)).mono ?_
  rintro e w' ⟨x, rfl, hown, hbel, hsz⟩
  rw [List.nil_append] at hown
  obtain ⟨g, cap, rfl, hg0, hg1⟩ := hown.form (by omega)
  exact ⟨g, cap, rfl, Own.base hown hB, hbel⟩

theorem lebU_at {w : World} {g cap n : Nat} {l : List Int} {v m k : Int} (hU : uT 64 l = (v, m, k)) (h : Came w w.heap.size (some ⟨g, 0, none⟩) cap l) (hn : l.length = n) (hlen : n ≤ 60) :
    Calls Try.prog 16 #[.slice (some ⟨g, 0, none⟩) n cap, .int .i64 64] w (fun e w' => e = .returned (.tuple #[.int .u64 v, .int .i64 m, .int .i64 k]) ∧ Below w.heap.size w w') := by
  subst hn; exact lebU_T (b := 64) (by decide) hU (Nat.le_refl _) h (by omega)
theorem lebS_at {w : World} {g cap n : Nat} {l : List Int} {v m k : Int} (hU : sT 64 l = (v, m, k)) (h : Came w w.heap.size (some ⟨g, 0, none⟩) cap l) (hn : l.length = n) (hlen : n ≤ 60) :
    Calls Try.prog 19 #[.slice (some ⟨g, 0, none⟩) n cap, .int .i64 64] w (fun e w' => e = .returned (.tuple #[.int .i64 v, .int .i64 m, .int .i64 k]) ∧ Below w.heap.size w w') := by
  subst hn; exact lebS_T (b := 64) (by decide) hU (Nat.le_refl _) h (by omega)

end Go.Proofs.Ytlpocahflolmpaa
