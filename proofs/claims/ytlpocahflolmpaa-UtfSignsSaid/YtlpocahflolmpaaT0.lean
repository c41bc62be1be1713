/- The numbers taken, each as one function of the bytes; the statement LebTakes. -/
import Derived.Test.YtlpocahflolmpaaB13
namespace Go.Proofs.Ytlpocahflolmpaa
set_option linter.unusedVariables false
set_option linter.unusedSimpArgs false
open Go.RowKit

/-- the number without a sign, how many bytes, what is wrong -/
def uT (b : Int) (l : List Int) : Int × Int × Int := (if (endF 29 b l).2 = 0 then val (l.take (endF 29 b l).1.toNat) % 18446744073709551616 else 0, endF 29 b l)
/-- the number with a sign -/
def sT (b : Int) (l : List Int) : Int × Int × Int := (if (endF 32 b l).2 = 0 then sv (l.take (endF 32 b l).1.toNat) else 0, endF 32 b l)
def tup (k : IntKind) (v n e : Int) : Value := .tuple #[.int k v, .int .i64 n, .int .i64 e]

theorem uT_of {w w' : World} {b : Int} {l : List Int} {e : Ending} {v n k : Int} (hU : uT b l = (v, n, k)) (h : uPost w b l e w') : e = .returned (.tuple #[.int .u64 v, .int .i64 n, .int .i64 k]) ∧ Below w.heap.size w w' := by
  obtain ⟨v', n', k', rfl, h1, h2, h3, h4⟩ := h
  refine ⟨?_, h4⟩
  unfold uT at hU
  rw [h1] at hU
  obtain ⟨e1, e2⟩ := Prod.mk.inj hU
  obtain ⟨rfl, rfl⟩ := Prod.mk.inj e2
  by_cases hk : k' = 0
  · rw [if_pos hk] at e1; rw [(h2 hk).1]; simp only at e1; rw [e1]
  · rw [if_neg hk] at e1; rw [h3 hk, ← e1]
theorem sT_of {w w' : World} {b : Int} {l : List Int} {e : Ending} {v n k : Int} (hU : sT b l = (v, n, k)) (h : rsPost w b l e w') : e = .returned (.tuple #[.int .i64 v, .int .i64 n, .int .i64 k]) ∧ Below w.heap.size w w' := by
  obtain ⟨v', n', k', rfl, h1, h2, h3, h4⟩ := h
  refine ⟨?_, h4⟩
  unfold sT at hU
  rw [h1] at hU
  obtain ⟨e1, e2⟩ := Prod.mk.inj hU
  obtain ⟨rfl, rfl⟩ := Prod.mk.inj e2
  by_cases hk : k' = 0
  · rw [if_pos hk] at e1; rw [(h2 hk).1]; simp only at e1; rw [e1]
  · rw [if_neg hk] at e1; rw [h3 hk, ← e1]

/-- a slice that came in: its bytes are bytes -/
structure Came (w : World) (B : Nat) (A : Option Addr) (c : Nat) (l : List Int) : Prop where
  src : Src w B A c l
  byte : ∀ x ∈ l, 0 ≤ x ∧ x < 256
theorem Came.below {w w' : World} {B B' : Nat} {A : Option Addr} {c : Nat} {l : List Int} (h : Came w B A c l) (hb : Below B' w w') (hB : B ≤ B') : Came w' B A c l := ⟨h.src.below hb hB, h.byte⟩

theorem lebU_T {w : World} {B : Nat} {A : Option Addr} {c : Nat} {l : List Int} {n v m k b : Int} (hb : bitsI n = b) (hU : uT b l = (v, m, k)) (hB : B ≤ w.heap.size) (h : Came w B A c l) (hlen : l.length ≤ 1000000000) :
    Calls Try.prog 16 #[.slice A l.length c, .int .i64 n] w (fun e w' => e = .returned (.tuple #[.int .u64 v, .int .i64 m, .int .i64 k]) ∧ Below w.heap.size w w') := by
  subst hb; exact (lebU w B A c l n hB h.src h.byte hlen).mono fun e w' h => uT_of hU h
theorem lebS_T {w : World} {B : Nat} {A : Option Addr} {c : Nat} {l : List Int} {n v m k b : Int} (hb : bitsI n = b) (hU : sT b l = (v, m, k)) (hB : B ≤ w.heap.size) (h : Came w B A c l) (hlen : l.length ≤ 1000000000) :
    Calls Try.prog 19 #[.slice A l.length c, .int .i64 n] w (fun e w' => e = .returned (.tuple #[.int .i64 v, .int .i64 m, .int .i64 k]) ∧ Below w.heap.size w w') := by
  subst hb; exact (lebS2 w B A c l n hB h.src h.byte hlen).mono fun e w' h => sT_of hU h
theorem refU_T {w : World} {B : Nat} {A : Option Addr} {c : Nat} {l : List Int} {v m k b : Int} (b0 : 1 ≤ b) (b1 : b ≤ 64) (hU : uT b l = (v, m, k)) (hB : B ≤ w.heap.size) (h : Came w B A c l) (hlen : l.length ≤ 1000000000) :
    Calls Try.prog 17 #[.slice A l.length c, .int .i64 b] w (fun e w' => e = .returned (.tuple #[.int .u64 v, .int .i64 m, .int .i64 k]) ∧ Below w.heap.size w w') :=
  (refU w B A c l b b0 b1 hB h.src h.byte hlen).mono fun e w' h => uT_of hU h
theorem refS_T {w : World} {B : Nat} {A : Option Addr} {c : Nat} {l : List Int} {v m k b : Int} (b0 : 1 ≤ b) (b1 : b ≤ 64) (hU : sT b l = (v, m, k)) (hB : B ≤ w.heap.size) (h : Came w B A c l) (hlen : l.length ≤ 1000000000) :
    Calls Try.prog 20 #[.slice A l.length c, .int .i64 b] w (fun e w' => e = .returned (.tuple #[.int .i64 v, .int .i64 m, .int .i64 k]) ∧ Below w.heap.size w w') :=
  (refS w B A c l b b0 b1 hB h.src h.byte hlen).mono fun e w' h => sT_of hU h
theorem lawBits_T {w : World} {n b : Int} (hb : bitsI n = b) : Calls Try.prog 18 #[.int .i64 n] w (fun e w' => e = .returned (.int .i64 b) ∧ Below w.heap.size w w') := by
  subst hb; exact lawBits w n

/-- the way from the call's beginning to here -/
theorem chain {B : Nat} {w0 w1 w2 : World} (h1 : Below B w0 w1) (h2 : Below w1.heap.size w1 w2) (hB : B ≤ w1.heap.size) : Below B w0 w2 ∧ B ≤ w2.heap.size :=
  ⟨h1.trans (h2.mono hB), Nat.le_trans hB h2.size⟩

set_option maxHeartbeats 2000000 in
theorem takes_walk (A : Option Addr) (c : Nat) (l : List Int) (n : Int) (w : World) (h : Came w w.heap.size A c l) (hlen : (l.length : Int) ≤ 9223372036854775807) :
    Calls Try.prog 4 #[.slice A l.length c, .int .i64 n] w (fun e w' => e = .returned (.bool true) ∧ Below w.heap.size w w') := by
  by_cases h60 : l.length ≤ 60
  · obtain ⟨b, hb⟩ : ∃ b, bitsI n = b := ⟨_, rfl⟩
    obtain ⟨b0, b1⟩ := bitsI_le n
    rw [hb] at b0 b1
    obtain ⟨v, m, k, hU⟩ : ∃ v m k, uT b l = (v, m, k) := ⟨_, _, _, rfl⟩
    obtain ⟨s, p, q, hS⟩ : ∃ v m k, sT b l = (v, m, k) := ⟨_, _, _, rfl⟩
    have HC := hid h
    have HB := hid hb
    have HU := hid hU
    have HS := hid hS
    clear h hb hU hS
    go_enter Try.func4, Try.ntmps4
    go_wp2_with (first
      | (go_at_call 16; refine (lebU_T HB.out HU.out (Nat.le_refl _) HC.out (by omega)).mono ?_; rintro e w' ⟨rfl, hb1⟩; have k1 := chain (Below.refl _ _) hb1 (Nat.le_refl _); have hz1 := k1.2; have K1 := hid k1.1; clear k1 hb1)
      | (go_at_call 18; refine (lawBits_T HB.out).mono ?_; rintro e w' ⟨rfl, hb2⟩; (first | (have k2 := chain K5.out hb2 hz5; have hz6 := k2.2; have K6 := hid k2.1) | (have k2 := chain K4.out hb2 hz4; have hz5 := k2.2; have K5 := hid k2.1) | (have k2 := chain K1.out hb2 hz1; have hz2 := k2.2; have K2 := hid k2.1)); clear k2 hb2)
      | (go_at_call 17; refine (refU_T b0 b1 HU.out hz2 (HC.out.below K2.out (Nat.le_refl _)) (by omega)).mono ?_; rintro e w' ⟨rfl, hb3⟩; have k3 := chain K2.out hb3 hz2; have hz3 := k3.2; have K3 := hid k3.1; clear k3 hb3)
      | (go_at_call 19; refine (lebS_T HB.out HS.out hz3 (HC.out.below K3.out (Nat.le_refl _)) (by omega)).mono ?_; rintro e w' ⟨rfl, hb4⟩; have k4 := chain K3.out hb4 hz3; have hz4 := k4.2; have K4 := hid k4.1; clear k4 hb4)
      | (go_at_call 20; refine (refS_T b0 b1 HS.out hz5 (HC.out.below K5.out (Nat.le_refl _)) (by omega)).mono ?_; rintro e w' ⟨rfl, hb5⟩; have k5 := chain K5.out hb5 hz5; have hz7 := k5.2; have K7 := hid k5.1; clear k5 hb5)
      | (go_at_call 15; refine (awake_any _).mono ?_; rintro e w' ⟨rfl, hb8⟩; have k8 := chain K7.out hb8 hz7))
    go_ret
    exact ⟨rfl, k8.1⟩
  · go_enter Try.func4, Try.ntmps4
    go_wp2
    go_ret
    exact ⟨rfl, (by repeat (first | exact Below.refl _ _ | assumption | refine Below.alloc ?_ (by first | exact Nat.le_refl _ | (simp; done) | (simp; omega) | omega) _ | refine Below.drew ?_ | refine Below.setCell ?_ (by first | exact Nat.le_refl _ | (simp; done) | (simp; omega) | omega) _ | refine below_call ?_ (by assumption) (by first | exact Nat.le_refl _ | (simp; done) | (simp; omega) | omega)))⟩

end Go.Proofs.Ytlpocahflolmpaa
