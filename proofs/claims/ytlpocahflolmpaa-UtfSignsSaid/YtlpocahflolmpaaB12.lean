/- leb.S in the reference's words; a count of bits. -/
import Derived.Test.YtlpocahflolmpaaB11
import Derived.Laws.BytesArg
namespace Go.Proofs.Ytlpocahflolmpaa
set_option linter.unusedVariables false
set_option linter.unusedSimpArgs false
open Go.RowKit

theorem sgn_of (l : List Int) (b n : Int) (b0 : 1 ≤ b) (b1 : b ≤ 64) (hl : ∀ x ∈ l, 0 ≤ x ∧ x < 256) (h : endF 32 b l = (n, 0)) : sgn (val (l.take n.toNat) % 18446744073709551616) n = sv (l.take n.toNat) := by
  obtain ⟨_, D, x, T, rfl, h0, h1, h2, h3, h4⟩ := small_up 32 (.inr rfl) b b l n b0 (Int.le_refl _) b1 hl h
  have e : (D ++ x :: T).take n.toNat = D ++ [x] := by
    have e1 : n.toNat = D.length + 1 := by omega
    rw [e1, List.take_append, List.take_of_length_le (by omega)]
    simp
  rw [e, h2]
  apply sgn_sv D x h0 h1
  by_cases h8 : D.length ≤ 8
  · exact .inl h8
  · refine .inr ⟨by omega, ?_⟩
    have hh := h4 (by omega)
    have e1 : b - 7 * (D.length : Int) = 1 := by omega
    rw [e1] at hh
    simpa [okF] using hh

theorem lebS2 (w : World) (B : Nat) (A : Option Addr) (c : Nat) (l : List Int) (n : Int) (hB : B ≤ w.heap.size) (hsrc : Src w B A c l) (hl : ∀ x ∈ l, 0 ≤ x ∧ x < 256) (hlen : l.length ≤ 1000000000) :
    Calls Try.prog 19 #[.slice A l.length c, .int .i64 n] w (rsPost w (bitsI n) l) := by
  refine (lebS w B A c l n hB hsrc hl hlen).mono ?_
  rintro e w' ⟨v, m, k, rfl, h1, h2, h3, h4⟩
  refine ⟨v, m, k, rfl, h1, fun hk => ?_, h3, h4⟩
  obtain ⟨q1, q2⟩ := h2 hk
  refine ⟨?_, q2⟩
  rw [q1]
  subst hk
  exact sgn_of l _ m (bitsI_le n).1 (bitsI_le n).2 hl h1

theorem lawBits (w : World) (n : Int) : Calls Try.prog 18 #[.int .i64 n] w (fun e w' => e = .returned (.int .i64 (bitsI n)) ∧ Below w.heap.size w w') := by
  go_enter Try.func18, Try.ntmps18
  go_wp2
  all_goals
    go_ret
    refine ⟨ret_int ?_, (by repeat (first | exact Below.refl _ _ | assumption | refine Below.alloc ?_ (by first | exact Nat.le_refl _ | (simp; done) | (simp; omega) | omega) _ | refine Below.drew ?_ | refine Below.setCell ?_ (by first | exact Nat.le_refl _ | (simp; done) | (simp; omega) | omega) _ | refine below_call ?_ (by assumption) (by first | exact Nat.le_refl _ | (simp; done) | (simp; omega) | omega)))⟩
    unfold bitsI
    omega

/-- the string of an own row -/
theorem own_string {w : World} {base : Nat} {v : Value} {l : List Int} (h : Own w base v l) : (convert 22 9 v).run Try.prog w = .ok (.string (strOfNums l)) w := by
  rcases Nat.eq_zero_or_pos l.length with h0 | h0
  · have hl : l = [] := List.eq_nil_of_length_eq_zero h0
    subst hl
    rcases h.2 with ⟨rfl, _⟩ | ⟨g, cap, cur, rfl, _⟩
    · exact run_convert_bytes_nil w 22 5 Try.underlying22 Try.underlying5 0 0 9 Try.underlying9
    · exact run_convert_bytes_arg w 22 5 Try.underlying22 Try.underlying5 g 0 0 cap [] rfl (fun i hi => by omega) 9 Try.underlying9
  · obtain ⟨g, cap, rfl, _, _⟩ := h.form h0
    refine run_convert_bytes_arg w 22 5 Try.underlying22 Try.underlying5 g 0 l.length cap l rfl (fun i hi => ?_) 9 Try.underlying9
    have := h.cells (g := g) rfl i (.int .u8 (l.getD i 0)) (by simp [bv, List.getD, List.getElem?_eq_getElem hi])
    have e : (⟨g, 0, none⟩ : Addr).add i = ⟨g, i, none⟩ := by unfold Addr.add; split <;> simp_all
    rw [Nat.zero_add, ← e]
    exact this

theorem Own.keep {w w' : World} {base : Nat} {v : Value} {l : List Int} (h : Own w base v l) (hb : Below w.heap.size w w') : Own w' base v l := by
  rcases h.2 with h0 | ⟨g, cap, cur, e1, e2, e3, e4⟩
  · exact ⟨h.1, .inl h0⟩
  · have hlt : g < w.heap.size := (World.ownsRow.lt h g (by rw [e1]; rfl)).2
    exact ⟨h.1, .inr ⟨g, cap, cur, e1, e2, (hb.block g hlt).trans e3, e4⟩⟩
theorem Own.src {w : World} {base : Nat} {A : Option Addr} {c : Nat} {l : List Int} (h : Own w base (.slice A l.length c) l) : Src w w.heap.size A c l := by
  rcases h.2 with ⟨e1, e2⟩ | ⟨g, cap, cur, e1, e2, e3, e4⟩
  · injection e1 with q1 q2 q3
    subst q1 q3
    exact .inl ⟨rfl, rfl, List.eq_nil_of_length_eq_zero q2⟩
  · injection e1 with q1 q2 q3
    subst q1
    have hlt := (World.ownsRow.lt h g rfl).2
    exact .inr ⟨_, rfl, fun _ => hlt, h.cells (g := g) rfl⟩
/-- a literal's cells -/
theorem src_new (w : World) (l : List Int) (c : Nat) : Src (w.alloc (.cells (bv l).toArray 5)) (w.heap.size + 1) (some ⟨w.heap.size, 0, none⟩) c l := by
  refine .inr ⟨_, rfl, fun _ => by simp, fun j u hu => ?_⟩
  have e : (⟨w.heap.size, 0, none⟩ : Addr).add j = ⟨w.heap.size, j, none⟩ := by unfold Addr.add; split <;> simp_all
  rw [e, World.cell?_alloc_new]
  simpa using hu

end Go.Proofs.Ytlpocahflolmpaa
