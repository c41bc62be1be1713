/- Plain laws of signs as bytes: each is a text, cut anywhere the front of one. -/
import Derived.Test.YtlpocahflolmpaaU7
namespace Go.Proofs.Ytlpocahflolmpaa
set_option linter.unusedVariables false
set_option linter.unusedSimpArgs false
open Go.RowKit

theorem needF_nil (f : Nat) : needF f [] = (0, true) := by cases f <;> simp [needF]
theorem needF_more (n : Nat) : ∀ (l : List Int) (f g : Nat), l.length ≤ n → l.length ≤ f → l.length ≤ g → needF f l = needF g l := by
  induction n with
  | zero =>
    intro l f g h _ _
    have : l = [] := List.eq_nil_of_length_eq_zero (by omega)
    subst this
    rw [needF_nil, needF_nil]
  | succ n ih =>
    intro l f g h hf hg
    by_cases hl : l = []
    · subst hl; rw [needF_nil, needF_nil]
    · have hp : 0 < l.length := List.length_pos_iff.2 hl
      obtain ⟨f, rfl⟩ : ∃ m, f = m + 1 := ⟨f - 1, by omega⟩
      obtain ⟨g, rfl⟩ : ∃ m, g = m + 1 := ⟨g - 1, by omega⟩
      simp only [needF, if_neg hl]
      split
      · rfl
      · rename_i h2
        have ht : (sgnR l).2.2 = true := by
          rcases hx : (sgnR l).2.2 with _ | _
          · exact absurd (.inl hx) h2
          · rfl
        have := sgnR_le l ht
        have hd : (l.drop (sgnR l).1.toNat).length = l.length - (sgnR l).1.toNat := by simp
        exact ih _ f g (by omega) (by omega) (by omega)
theorem need_step {l : List Int} (hl : l ≠ []) : need l = if (sgnR l).2.2 = false ∨ 0 < (sgnR l).2.1 then ((sgnR l).2.1, (sgnR l).2.2) else need (l.drop (sgnR l).1.toNat) := by
  have hp : 0 < l.length := List.length_pos_iff.2 hl
  unfold need
  obtain ⟨f, hf⟩ : ∃ m, l.length = m + 1 := ⟨l.length - 1, by omega⟩
  rw [hf]
  simp only [needF, if_neg hl]
  split
  · rfl
  · rename_i h2
    have ht : (sgnR l).2.2 = true := by
      rcases hx : (sgnR l).2.2 with _ | _
      · exact absurd (.inl hx) h2
      · rfl
    have := sgnR_le l ht
    have hd : (l.drop (sgnR l).1.toNat).length = l.length - (sgnR l).1.toNat := by simp
    exact needF_more f _ f _ (by omega) (by omega) (Nat.le_refl _)

theorem sgnG_app (m lo hi : Int) (X : List Int) (t : List Int) : ∀ n : Int, n ≤ m + 1 → (sgnG m lo hi n t).2.2 = true → (sgnG m lo hi n t).2.1 ≤ 0 → sgnG m lo hi n (t ++ X) = sgnG m lo hi n t := by
  induction t with
  | nil =>
    intro n h _ hk
    simp [sgnG] at hk
    cases X with
    | nil => rfl
    | cons x X => simp only [List.nil_append, sgnG]; rw [if_pos (by omega)]
  | cons x t ih =>
    intro n h ht hk
    simp only [List.cons_append, sgnG] at ht hk ⊢
    split at ht
    · rename_i h1; rw [if_pos h1, if_pos h1]
    · rename_i h1
      split at ht
      · simp at ht
      · rename_i h2
        rw [if_neg h1, if_neg h2] at hk
        rw [if_neg h1, if_neg h2, if_neg h1, if_neg h2]
        exact ih (n + 1) (by omega) ht hk
theorem sgnR_app (l X : List Int) (h : (sgnR l).2.2 = true) (hk : (sgnR l).2.1 ≤ 0) : sgnR (l ++ X) = sgnR l := by
  cases l with
  | nil => simp [sgnR] at h
  | cons b t =>
    have hl := leadR_le b
    simp only [List.cons_append, sgnR] at h hk ⊢
    split at h
    · rename_i hb
      rw [if_pos hb] at hk
      rw [if_pos hb, if_pos hb]
      exact sgnG_app _ _ _ X t 1 (by omega) h hk
    · simp at h

/-- behind a text -/
theorem need_app (n : Nat) : ∀ (A X : List Int), A.length ≤ n → need A = (0, true) → need (A ++ X) = need X := by
  induction n with
  | zero =>
    intro A X h _
    have : A = [] := List.eq_nil_of_length_eq_zero (by omega)
    subst this; rfl
  | succ n ih =>
    intro A X h hA
    by_cases hl : A = []
    · subst hl; rfl
    · rw [need_step hl] at hA
      by_cases h2 : (sgnR A).2.2 = false ∨ 0 < (sgnR A).2.1
      · rw [if_pos h2] at hA
        rcases h2 with h2 | h2
        · rw [h2] at hA; simp at hA
        · have := (Prod.mk.inj hA).1; omega
      · rw [if_neg h2] at hA
        have ht : (sgnR A).2.2 = true := by
          rcases hx : (sgnR A).2.2 with _ | _
          · exact absurd (.inl hx) h2
          · rfl
        have hk : (sgnR A).2.1 ≤ 0 := by omega
        have hle := sgnR_le A ht
        have happ := sgnR_app A X ht hk
        have hne : A ++ X ≠ [] := by intro e; exact hl (List.append_eq_nil_iff.1 e).1
        rw [need_step hne, happ, if_neg h2, List.drop_append_of_le_length (by omega)]
        exact ih _ X (by simp; omega) hA
theorem need_front {A X : List Int} (h : need A = (0, true)) : need (A ++ X) = need X := need_app A.length A X (Nat.le_refl _) h

/-- a sign's number as bytes -/
def signL (n : Int) : List Int :=
  if n < 128 then [n] else if n < 2048 then [192 + n / 64, 128 + n % 64] else if n < 65536 then [224 + n / 4096, 128 + n / 64 % 64, 128 + n % 64]
  else [240 + n / 262144, 128 + n / 4096 % 64, 128 + n / 64 % 64, 128 + n % 64]
theorem signL_bytes (n : Int) (h0 : 0 ≤ n) (h1 : n ≤ 1114111) : ∀ x ∈ signL n, 0 ≤ x ∧ x < 256 := by
  intro x hx
  unfold signL at hx
  split at hx
  · simp at hx; omega
  · split at hx
    · simp at hx; omega
    · split at hx
      · simp at hx; omega
      · simp at hx; omega
theorem signL_len (n : Int) : 1 ≤ (signL n).length ∧ (signL n).length ≤ 4 := by
  unfold signL
  split
  · simp
  · split
    · simp
    · split <;> simp

/-- what is known of bytes that some sign of z bytes begins with -/
theorem of_SP {l : List Int} {z : Int} (h : SP z (sgnR l)) (hz : (l.length : Int) ≤ z) : sgnR l = ((l.length : Int), z - l.length, true) := by
  obtain ⟨h1, h2⟩ := h
  have hle := sgnR_le l h1
  have hlk := sgnR_lacks l h1
  rcases hr : sgnR l with ⟨a, b, c⟩
  rw [hr] at h1 h2 hle hlk
  simp only at h1 h2 hle hlk
  have : a = l.length := by
    by_cases hb : 0 < b
    · exact hlk hb
    · omega
  subst this
  rw [h1]
  congr 1
  congr 1
  omega

/-- cut anywhere it is the front of one -/
theorem sign_cut (n : Int) (h0 : 0 ≤ n) (h1 : n ≤ 1114111) (his : n < 55296 ∨ 57343 < n) (k : Nat) (hk : 1 ≤ k) (hk2 : k ≤ (signL n).length) :
    sgnR ((signL n).take k) = ((k : Int), ((signL n).length : Int) - k, true) := by
  have hb := signL_bytes n h0 h1
  have hlen : ((signL n).take k).length = k := by rw [List.length_take]; omega
  have hbt : ∀ x ∈ (signL n).take k, 0 ≤ x ∧ x < 256 := fun x hx => hb x (List.mem_of_mem_take hx)
  have key : SP ((signL n).length : Int) (sgnR ((signL n).take k)) := by
    unfold signL at hk2 hbt ⊢
    split at hk2
    · rename_i c1
      simp only [if_pos c1] at hbt ⊢
      have : k = 1 := by simp at hk2; omega
      subst this
      refine (beg1 _ hbt).1 ?_
      simp only [List.take_succ_cons, List.take_zero, begG_iff, bl_zero]
      omega
    · rename_i c1
      split at hk2
      · rename_i c2
        simp only [if_neg c1, if_pos c2] at hbt ⊢
        refine (beg2 _ hbt).1 ?_
        have : k = 1 ∨ k = 2 := by simp at hk2; omega
        rcases this with rfl | rfl
        all_goals
          simp only [List.take_succ_cons, List.take_zero, List.take_nil, begG_iff, bl_zero, bl_cons, bl_nil, any_iff]
          omega
      · rename_i c2
        split at hk2
        · rename_i c3
          simp only [if_neg c1, if_neg c2, if_pos c3] at hbt ⊢
          refine (beg3 _ hbt).1 ?_
          have : k = 1 ∨ k = 2 ∨ k = 3 := by simp at hk2; omega
          rcases this with rfl | rfl | rfl
          all_goals
            simp only [List.take_succ_cons, List.take_zero, List.take_nil, begG_iff, bl_zero, bl_cons, bl_nil, any_iff]
            omega
        · rename_i c3
          simp only [if_neg c1, if_neg c2, if_neg c3] at hbt ⊢
          refine (beg4 _ hbt).1 ?_
          have : k = 1 ∨ k = 2 ∨ k = 3 ∨ k = 4 := by simp at hk2; omega
          rcases this with rfl | rfl | rfl | rfl
          all_goals
            simp only [List.take_succ_cons, List.take_zero, List.take_nil, begG_iff, bl_zero, bl_cons, bl_nil, any_iff]
            omega
  have := of_SP key (by rw [hlen]; omega)
  rw [hlen] at this
  exact this

theorem need_sign (n : Int) (h0 : 0 ≤ n) (h1 : n ≤ 1114111) (his : n < 55296 ∨ 57343 < n) : need (signL n) = (0, true) := by
  have hl := signL_len n
  have h := sign_cut n h0 h1 his _ hl.1 (Nat.le_refl _)
  rw [List.take_length] at h
  rw [need_step (by intro e; rw [e] at hl; simp at hl), h, if_neg (by simp)]
  have : (signL n).drop ((signL n).length : Int).toNat = [] := List.drop_eq_nil_of_le (by simp)
  simp only
  rw [this]
  rfl
theorem need_cut (n : Int) (h0 : 0 ≤ n) (h1 : n ≤ 1114111) (his : n < 55296 ∨ 57343 < n) (k : Nat) (hk : 1 ≤ k) (hk2 : k < (signL n).length) : need ((signL n).take k) = (((signL n).length : Int) - k, true) := by
  have h := sign_cut n h0 h1 his k hk (by omega)
  have hlen : ((signL n).take k).length = k := by rw [List.length_take]; omega
  rw [need_step (by intro e; rw [e] at hlen; simp at hlen; omega), h, if_pos (by right; simp only; omega)]
/-- a number of none is none -/
theorem need_none (n : Int) (h0 : 55296 ≤ n) (h1 : n ≤ 57343) : need (signL n) = (0, false) := by
  have hb := signL_bytes n (by omega) (by omega)
  have hs : signL n = [224 + n / 4096, 128 + n / 64 % 64, 128 + n % 64] := by
    unfold signL; rw [if_neg (by omega), if_neg (by omega), if_pos (by omega)]
  rw [hs] at hb ⊢
  have hf : (sgnR [224 + n / 4096, 128 + n / 64 % 64, 128 + n % 64]).2.2 = false := by
    rcases ht : (sgnR [224 + n / 4096, 128 + n / 64 % 64, 128 + n % 64]).2.2 with _ | _
    · rfl
    · exfalso
      have hs := sgnR_sum _ ht
      have hsp : SP ((sgnR [224 + n / 4096, 128 + n / 64 % 64, 128 + n % 64]).1 + (sgnR [224 + n / 4096, 128 + n / 64 % 64, 128 + n % 64]).2.1) (sgnR [224 + n / 4096, 128 + n / 64 % 64, 128 + n % 64]) := ⟨ht, rfl⟩
      generalize (sgnR [224 + n / 4096, 128 + n / 64 % 64, 128 + n % 64]).1 + (sgnR [224 + n / 4096, 128 + n / 64 % 64, 128 + n % 64]).2.1 = z at hs hsp
      rcases (show z = 1 ∨ z = 2 ∨ z = 3 ∨ z = 4 by omega) with rfl | rfl | rfl | rfl
      · have := (beg1 _ hb).2 hsp
        simp only [begG_iff, bl_zero, bl_cons, bl_nil, any_iff] at this
        omega
      · have := (beg2 _ hb).2 hsp
        simp only [begG_iff, bl_zero, bl_cons, bl_nil, any_iff] at this
        omega
      · have := (beg3 _ hb).2 hsp
        simp only [begG_iff, bl_zero, bl_cons, bl_nil, any_iff] at this
        omega
      · have := (beg4 _ hb).2 hsp
        simp only [begG_iff, bl_zero, bl_cons, bl_nil, any_iff] at this
        omega
  rw [need_step (by simp), sgnR_neg _ hf]
  simp

end Go.Proofs.Ytlpocahflolmpaa
