/- One round of SpanDigits' loop, in plain numbers. -/
import Derived.Test.YtlpocahflolmpaaDoorG1
namespace Go.Proofs.YtlpocahflolmpaaDoor.Lb
set_option linter.unusedVariables false
set_option linter.unusedSimpArgs false
open Go.RowKit

structure Round (v lo hi : Int) (L : List Int) (i : Nat) (s sh left : Int) : Prop where
  s0 : 0 ≤ s
  s1 : s < 2 ^ sh.toNat
  h0 : 0 ≤ sh
  h1 : sh ≤ 63
  f0 : 0 ≤ left
  f1 : left ≤ 9
  fit : lo ≤ v ∧ v ≤ hi → fitD s sh left lo hi = true
  last : fitD s sh left lo hi = true → i + 1 = L.length → lo ≤ v ∧ v ≤ hi
  no : fitD s sh left lo hi = false → ∀ w, lo ≤ w → w ≤ hi → w ≠ s ∧ (0 < left → w % 2 ^ sh.toNat ≠ s)

theorem Round.mk' {v lo hi : Int} {L : List Int} {i : Nat} {s sh left : Int} (B F : Int) (hB : 2 ^ sh.toNat = B) (hF : 128 ^ left.toNat = F) (hB0 : 0 < B) (h0 : 0 ≤ sh) (h1 : sh ≤ 63) (f0 : 0 ≤ left) (f1 : left ≤ 9)
    (s0 : 0 ≤ s) (s1 : s < B) (hl : 0 ≤ lo) (hh : hi ≤ 4294967295) (hv : v ≤ 4294967295) (e : v / B * B + s = v) (ez : v / B / F = 0) (hlast : i + 1 = L.length → s = v ∧ left = 0)
    (hw : ∀ w, 0 ≤ w → w ≤ 4294967295 → 0 < left → w / B / F = 0) : Round v lo hi L i s sh left := by
  subst hB hF
  refine ⟨s0, s1, h0, h1, f0, f1, fun hin => ?_, fun hf hi => ?_, fun hno w h2 h3 => ?_⟩
  · exact fit_in s0 s1 h0 h1 f0 f1 hl e (by omega) ez hin
  · obtain ⟨q1, q2⟩ := hlast hi
    rw [q2] at hf
    rw [← q1]
    exact fit_last s0 s1 h0 h1 hl hf
  · have := fit_not s0 s1 h0 h1 f0 f1 hl hh hno h2 h3
    exact ⟨this.1, fun hp => this.2 (hw w (by omega) (by omega) hp)⟩

theorem Round.of {v lo hi : Int} {L : List Int} {i : Nat} {b : Int} (hd : Dg v L) (l5 : L.length ≤ 5) (hb : L[i]? = some b) (hv0 : 0 ≤ v) (hv : v ≤ 4294967295) (hl : 0 ≤ lo) (hh : hi ≤ 4294967295) (sh left : Int)
    (hsh : sh = if 7 * (i : Int) + 7 < 32 then 7 * (i : Int) + 7 else 32) (hleft : left = if b < 128 then 0 else 4 - (i : Int)) : Round v lo hi L i (val (L.take (i + 1))) sh left := by
  have hi : i < L.length := (List.getElem?_eq_some_iff.1 hb).1
  obtain ⟨r, r0, e, s0, s1, rl⟩ := hd.sofar hi
  have hla := hd.last hb
  obtain ⟨s, hs⟩ : ∃ s, val (L.take (i + 1)) = s := ⟨_, rfl⟩
  rw [hs] at e s0 s1 ⊢
  clear hs hd hb
  obtain rfl | rfl | rfl | rfl | rfl : i = 0 ∨ i = 1 ∨ i = 2 ∨ i = 3 ∨ i = 4 := by omega
  · simp at hsh hleft e s1 hla rl
    subst hsh
    by_cases hbb : b < 128
    · rw [if_pos hbb] at hleft; subst hleft
      have := rl (hla.1 hbb)
      exact Round.mk' 128 1 (by decide) (by decide) (by decide) (by decide) (by decide) (by decide) (by decide) s0 s1 hl hh hv (by omega) (by omega) (fun _ => ⟨by omega, rfl⟩) (fun w _ _ h => by omega)
    · rw [if_neg hbb] at hleft; subst hleft
      exact Round.mk' 128 268435456 (by decide) (by decide) (by decide) (by decide) (by decide) (by decide) (by decide) s0 s1 hl hh hv (by omega) (by omega) (fun h => absurd (hla.2 h) hbb) (fun w _ _ h => by omega)
  · simp at hsh hleft e s1 hla rl
    subst hsh
    by_cases hbb : b < 128
    · rw [if_pos hbb] at hleft; subst hleft
      have := rl (hla.1 hbb)
      exact Round.mk' 16384 1 (by decide) (by decide) (by decide) (by decide) (by decide) (by decide) (by decide) s0 s1 hl hh hv (by omega) (by omega) (fun _ => ⟨by omega, rfl⟩) (fun w _ _ h => by omega)
    · rw [if_neg hbb] at hleft; subst hleft
      exact Round.mk' 16384 2097152 (by decide) (by decide) (by decide) (by decide) (by decide) (by decide) (by decide) s0 s1 hl hh hv (by omega) (by omega) (fun h => absurd (hla.2 h) hbb) (fun w _ _ h => by omega)
  · simp at hsh hleft e s1 hla rl
    subst hsh
    by_cases hbb : b < 128
    · rw [if_pos hbb] at hleft; subst hleft
      have := rl (hla.1 hbb)
      exact Round.mk' 2097152 1 (by decide) (by decide) (by decide) (by decide) (by decide) (by decide) (by decide) s0 s1 hl hh hv (by omega) (by omega) (fun _ => ⟨by omega, rfl⟩) (fun w _ _ h => by omega)
    · rw [if_neg hbb] at hleft; subst hleft
      exact Round.mk' 2097152 16384 (by decide) (by decide) (by decide) (by decide) (by decide) (by decide) (by decide) s0 s1 hl hh hv (by omega) (by omega) (fun h => absurd (hla.2 h) hbb) (fun w _ _ h => by omega)
  · simp at hsh hleft e s1 hla rl
    subst hsh
    by_cases hbb : b < 128
    · rw [if_pos hbb] at hleft; subst hleft
      have := rl (hla.1 hbb)
      exact Round.mk' 268435456 1 (by decide) (by decide) (by decide) (by decide) (by decide) (by decide) (by decide) s0 s1 hl hh hv (by omega) (by omega) (fun _ => ⟨by omega, rfl⟩) (fun w _ _ h => by omega)
    · rw [if_neg hbb] at hleft; subst hleft
      exact Round.mk' 268435456 128 (by decide) (by decide) (by decide) (by decide) (by decide) (by decide) (by decide) s0 s1 hl hh hv (by omega) (by omega) (fun h => absurd (hla.2 h) hbb) (fun w _ _ h => by omega)
  · have q : 4 + 1 = L.length := by omega
    have := rl q
    have hbb := hla.2 q
    rw [if_pos hbb] at hleft
    simp at hsh e
    subst hsh hleft
    exact Round.mk' 4294967296 1 (by decide) (by decide) (by decide) (by decide) (by decide) (by decide) (by decide) s0 (by omega) hl hh hv (by omega) (by omega) (fun _ => ⟨by omega, rfl⟩) (fun w _ _ h => by omega)

end Go.Proofs.YtlpocahflolmpaaDoor.Lb
