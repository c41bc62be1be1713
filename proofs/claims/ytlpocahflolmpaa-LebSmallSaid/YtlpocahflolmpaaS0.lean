/- The statement LebSmall: a number of fewer bits is one of more. -/
import Derived.Test.YtlpocahflolmpaaT0
namespace Go.Proofs.Ytlpocahflolmpaa
set_option linter.unusedVariables false
set_option linter.unusedSimpArgs false
open Go.RowKit

theorem take_D {D T : List Int} {x n : Int} (h : n = (D.length : Int) + 1) : (D ++ x :: T).take n.toNat = D ++ [x] := by
  have e1 : n.toNat = D.length + 1 := by omega
  rw [e1, List.take_append, List.take_of_length_le (by omega)]
  simp

theorem uT_small {s g : Int} {l : List Int} {v n : Int} (hs0 : 1 ≤ s) (hsg : s ≤ g) (hg : g ≤ 64) (hl : ∀ y ∈ l, 0 ≤ y ∧ y < 256) (h : uT s l = (v, n, 0)) : uT g l = (v, n, 0) ∧ v / 2 ^ s.toNat = 0 ∧ 0 ≤ v := by
  have h1 : endF 29 s l = (n, 0) := by have := congrArg Prod.snd h; exact this
  obtain ⟨h2, D, x, T, rfl, q0, q1, q2, q3, q4⟩ := small_up 29 (.inl rfl) s g l n hs0 hsg hg hl h1
  have hv : v = val (D ++ [x]) % 18446744073709551616 := by
    have := congrArg Prod.fst h
    simp only [uT, h1, take_D q2, if_true] at this
    exact this.symm
  refine ⟨?_, ?_, ?_⟩
  · simp only [uT, h2, take_D q2, if_true, ← hv]
  · obtain ⟨b0, b1⟩ := val_bits D x s q0 q1 hs0 (by omega) q3 q4
    have hm : val (D ++ [x]) % 18446744073709551616 ≤ val (D ++ [x]) := by omega
    exact Int.ediv_eq_zero_of_lt (by omega) (by omega)
  · omega
theorem sT_small {s g : Int} {l : List Int} {v n : Int} (hs0 : 1 ≤ s) (hsg : s ≤ g) (hg : g ≤ 64) (hl : ∀ y ∈ l, 0 ≤ y ∧ y < 256) (h : sT s l = (v, n, 0)) : sT g l = (v, n, 0) ∧ -(2 ^ (s - 1).toNat) ≤ v ∧ v < 2 ^ (s - 1).toNat := by
  have h1 : endF 32 s l = (n, 0) := by have := congrArg Prod.snd h; exact this
  obtain ⟨h2, D, x, T, rfl, q0, q1, q2, q3, q4⟩ := small_up 32 (.inr rfl) s g l n hs0 hsg hg hl h1
  have hv : v = sv (D ++ [x]) := by
    have := congrArg Prod.fst h
    simp only [sT, h1, take_D q2, if_true] at this
    exact this.symm
  refine ⟨?_, ?_⟩
  · simp only [sT, h2, take_D q2, if_true, ← hv]
  · rw [hv]; exact sv_bits D x s q0 q1 hs0 (by omega) q3 q4

theorem es_nat {s : Int} : (s - 1).toNat = s.toNat - 1 := by omega
theorem fits62 {k : Nat} {x : Int} (hk : k ≤ 62) (h0 : -2 ^ k ≤ x) (h1 : x < 2 ^ k) : x < wrap64 (2 ^ k) ∧ decide (wrap64 (2 ^ k) ≤ x) = false ∧ decide (x < wrap64 (-2 ^ k)) = false := by
  have hp := two_pos k
  have hp2 := two_mono hk
  have e62 : (2 : Int) ^ 62 = 4611686018427387904 := by decide
  rw [e62] at hp2
  generalize (2 : Int) ^ k = p at *
  have hw : wrap64 p = p := by unfold wrap64; omega
  have hw2 : wrap64 (-p) = -p := by unfold wrap64; omega
  rw [hw, hw2]
  exact ⟨h1, decide_eq_false (by omega), decide_eq_false (by omega)⟩

set_option maxRecDepth 100000 in
set_option maxHeartbeats 4000000 in
theorem small_yes (A : Option Addr) (c : Nat) (l : List Int) (n m : Int) (w : World) (h : Came w w.heap.size A c l) (h60 : l.length ≤ 60) (n0 : 0 ≤ n) (n1 : n ≤ 255) (m0 : 0 ≤ m) (m1 : m ≤ 255) :
    Calls Try.prog 5 #[.slice A l.length c, .int .u8 n, .int .u8 m] w (fun e w' => e = .returned (.bool true) ∧ Below w.heap.size w w') := by
    have HC := hid h
    clear h
    go_enter Try.func5, Try.ntmps5
    go_upto_region 5 with (fail)
    obtain ⟨g, hg⟩ : ∃ g, (if 1 + n % 64 + m % 64 < 64 then 1 + n % 64 + m % 64 else 64) = g := ⟨_, rfl⟩
    rw [hg]
    obtain ⟨s, hs⟩ : ∃ s, 1 + n % 64 = s := ⟨_, rfl⟩
    rw [hs] at hg ⊢
    have s0 : 1 ≤ s := by omega
    have s1 : s ≤ 64 := by omega
    have g0 : s ≤ g := by split at hg <;> omega
    have g1 : g ≤ 64 := by split at hg <;> omega
    clear hg hs
    have HBS := hid (show bitsI s = s by unfold bitsI; omega)
    have HBG := hid (show bitsI g = g by unfold bitsI; omega)
    obtain ⟨v, p, k, hU⟩ : ∃ v p k, uT s l = (v, p, k) := ⟨_, _, _, rfl⟩
    obtain ⟨v2, p2, k2, hU2⟩ : ∃ v p k, uT g l = (v, p, k) := ⟨_, _, _, rfl⟩
    obtain ⟨x, q, j, hS⟩ : ∃ v p k, sT s l = (v, p, k) := ⟨_, _, _, rfl⟩
    obtain ⟨x2, q2, j2, hS2⟩ : ∃ v p k, sT g l = (v, p, k) := ⟨_, _, _, rfl⟩
    have HU := hid hU
    have HU2 := hid hU2
    have HS := hid hS
    have HS2 := hid hS2
    clear hU hU2 hS hS2
    go_upto_region 7 with (first
      | (go_at_call 16; ((with_reducible refine (lebU_T HBS.out HU.out (Nat.le_refl _) HC.out (by omega)).mono ?_); rintro e w' ⟨rfl, hb1⟩; have k1 := chain (Below.refl _ _) hb1 (Nat.le_refl _); have hz1 := k1.2; have K1 := hid k1.1; clear k1 hb1))
      | (go_at_call 16; ((with_reducible refine (lebU_T HBG.out HU2.out hz1 (HC.out.below K1.out (Nat.le_refl _)) (by omega)).mono ?_); rintro e w' ⟨rfl, hb2⟩; have k2 := chain K1.out hb2 hz1; have hz2 := k2.2; have K2 := hid k2.1; clear k2 hb2)))
    go_cut [69] (fun s69 wx => s69 = .bool false ∧ wx = w')
    case first =>
      by_cases hk : k = 0
      · subst hk
        obtain ⟨e1, e2, e3⟩ := uT_small s0 g0 g1 HC.out.byte HU.out
        obtain ⟨rfl, e4⟩ := Prod.mk.inj (HU2.out.symm.trans e1)
        obtain ⟨rfl, rfl⟩ := Prod.mk.inj e4
        clear e1 e4
        by_cases hs : s < 64
        · have q1 : (v2 / 2 ^ s.toNat != 0) = false := by rw [e2]; rfl
          clear e2
          go_wp2
          go_meet
          exact ⟨rfl, rfl⟩
        · clear e2
          go_wp2
          go_meet
          exact ⟨rfl, rfl⟩
      · have q1 : (k == 0) = false := by simpa using hk
        go_wp2
        go_meet
        exact ⟨rfl, rfl⟩
    case rest =>
      obtain ⟨rfl, rfl⟩ := hcut
      go_upto_region 11 with (first
        | (go_at_call 19; ((with_reducible refine (lebS_T HBS.out HS.out hz2 (HC.out.below K2.out (Nat.le_refl _)) (by omega)).mono ?_); rintro e w' ⟨rfl, hb3⟩; have k3 := chain K2.out hb3 hz2; have hz3 := k3.2; have K3 := hid k3.1; clear k3 hb3))
        | (go_at_call 19; ((with_reducible refine (lebS_T HBG.out HS2.out hz3 (HC.out.below K3.out (Nat.le_refl _)) (by omega)).mono ?_); rintro e w' ⟨rfl, hb4⟩; have k4 := chain K3.out hb4 hz3; have hz4 := k4.2; have K4 := hid k4.1; clear k4 hb4)))
      go_cut [117] (fun s117 wx => s117 = .bool false ∧ wx = w')
      case first =>
        by_cases hk : j = 0
        · subst hk
          obtain ⟨e1, e2, e3⟩ := sT_small s0 g0 g1 HC.out.byte HS.out
          obtain ⟨rfl, e4⟩ := Prod.mk.inj (HS2.out.symm.trans e1)
          obtain ⟨rfl, rfl⟩ := Prod.mk.inj e4
          clear e1 e4
          by_cases hs : s < 64
          · have E2 := hid e2
            have E3 := hid e3
            clear e2 e3
            obtain ⟨q3, q4, q5⟩ := fits62 (k := s.toNat - 1) (x := x2) (by omega) (by rw [← es_nat]; exact E2.out) (by rw [← es_nat]; exact E3.out)
            have Q4 := hid q4
            have Q5 := hid q5
            clear q4 q5
            go_wp2
            go_meet
            refine ⟨?_, rfl⟩
            rw [Q4.out, Q5.out]
            rfl
          · clear e2 e3
            go_wp2
            go_meet
            exact ⟨rfl, rfl⟩
        · have q1 : (j == 0) = false := by simpa using hk
          go_wp2
          go_meet
          exact ⟨rfl, rfl⟩
      case rest =>
        obtain ⟨rfl, rfl⟩ := hcut
        go_wp2_with (first | (go_at_call 15; refine (awake_any _).mono ?_; rintro e w' ⟨rfl, hb8⟩; have k8 := chain K4.out hb8 hz4))
        go_ret
        exact ⟨rfl, k8.1⟩

theorem small_walk (A : Option Addr) (c : Nat) (l : List Int) (n m : Int) (w : World) (h : Came w w.heap.size A c l) (hlen : (l.length : Int) ≤ 9223372036854775807) (n0 : 0 ≤ n) (n1 : n ≤ 255) (m0 : 0 ≤ m) (m1 : m ≤ 255) :
    Calls Try.prog 5 #[.slice A l.length c, .int .u8 n, .int .u8 m] w (fun e w' => e = .returned (.bool true) ∧ Below w.heap.size w w') := by
  by_cases h60 : l.length ≤ 60
  · exact small_yes A c l n m w h h60 n0 n1 m0 m1
  · go_enter Try.func5, Try.ntmps5
    go_wp2
    go_ret
    exact ⟨rfl, (by repeat (first | exact Below.refl _ _ | assumption | refine Below.alloc ?_ (by first | exact Nat.le_refl _ | (simp; done) | (simp; omega) | omega) _ | refine Below.drew ?_ | refine Below.setCell ?_ (by first | exact Nat.le_refl _ | (simp; done) | (simp; omega) | omega) _ | refine below_call ?_ (by assumption) (by first | exact Nat.le_refl _ | (simp; done) | (simp; omega) | omega)))⟩

end Go.Proofs.Ytlpocahflolmpaa
