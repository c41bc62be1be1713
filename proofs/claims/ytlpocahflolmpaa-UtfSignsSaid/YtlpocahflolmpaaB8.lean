/- The number with which bytes begin: leb.U, leb.S. -/
import Derived.Test.YtlpocahflolmpaaB7
namespace Go.Proofs.Ytlpocahflolmpaa
set_option linter.unusedVariables false
set_option linter.unusedSimpArgs false
open Go.RowKit

/-- how many bytes a number of so many bits may have -/
def most (b : Int) : Nat := ((b + 6) / 7).toNat
theorem most_le {b : Int} (h0 : 1 ≤ b) (h1 : b ≤ 64) : (most b : Int) = (b + 6) / 7 ∧ 1 ≤ most b ∧ most b ≤ 10 := by unfold most; omega
/-- how many bytes, or what is wrong -/
def endF (f : Nat) (b : Int) (l : List Int) : Int × Int := ends (fun x => okF f x (b - 7 * ((most b : Int) - 1))) 0 (most b) l

theorem ends_range (ok : Int → Bool) (k : Nat) : ∀ (i : Nat) (l : List Int), (i : Int) ≤ (ends ok i k l).1 ∧ (ends ok i k l).1 ≤ i + k ∧ (ends ok i k l).1 ≤ i + l.length ∧ ((ends ok i k l).2 = 0 ∨ (ends ok i k l).2 = 1 ∨ (ends ok i k l).2 = 2) ∧ ((ends ok i k l).2 = 0 → (i : Int) + 1 ≤ (ends ok i k l).1) := by
  induction k with
  | zero => intro i l; simp [ends]; omega
  | succ k ih =>
    intro i l
    match l with
    | [] => simp [ends]; omega
    | x :: t =>
      simp only [ends]
      split
      · simp; omega
      · split
        · simp; omega
        · have := ih (i + 1) t
          simp only [List.length_cons]
          push_cast at this ⊢
          omega

def uPost (w : World) (b : Int) (l : List Int) (e : Ending) (w' : World) : Prop :=
  ∃ v n k, e = .returned (.tuple #[.int .u64 v, .int .i64 n, .int .i64 k]) ∧ endF 29 b l = (n, k) ∧ (k = 0 → v = val (l.take n.toNat) % 18446744073709551616 ∧ 1 ≤ n) ∧ (k ≠ 0 → v = 0) ∧ Below w.heap.size w w'

set_option maxHeartbeats 2000000 in
theorem lebU (w : World) (B : Nat) (A : Option Addr) (c : Nat) (l : List Int) (n : Int) (hB : B ≤ w.heap.size) (hsrc : Src w B A c l) (hl : ∀ x ∈ l, 0 ≤ x ∧ x < 256) (hlen : l.length ≤ 1000000000) :
    Calls Try.prog 16 #[.slice A l.length c, .int .i64 n] w (uPost w (bitsI n) l) := by
  obtain ⟨b0, b1⟩ := bitsI_le n
  obtain ⟨m0, m1, m2⟩ := most_le b0 b1
  have HS := hid hsrc
  have HM := hid m0
  have HLL := hid hl
  clear hsrc m0 hl
  go_enter Try.func16, Try.ntmps16
  go_wp2_with (first | (go_at_call 28; refine (lebWithin _ n).mono ?_; rintro e w' ⟨rfl, hb1⟩; (first | have hq1 := hz1 | have hq1 := True.intro); (first | have hq0 := hz0 | have hq0 := True.intro); obtain ⟨hcc, hff⟩ := bcell hb1; have hz1 := hb1.size; (try simp at hz1); (try have hy1 := Nat.lt_of_lt_of_le hq1 hz1); (try have hy0 := Nat.lt_of_lt_of_le hq0 hz1); (try replace hz1 := Nat.lt_of_succ_le hz1); (try have hz0 := Nat.lt_of_succ_lt hz1)) | (go_at_call 27; refine (digits_walk 29 (.inl rfl) _ B A c l (bitsI n) (most (bitsI n)) b0 b1 HM.out (by omega) (HS.out.below (by first | assumption | exact hb1) hB) HLL.out hlen).mono ?_; rintro e w' ⟨v1, n1, x1, k1, rfl, he1, hv1, hv2, hb1⟩; have HE1 := hid he1; have HV1 := hid hv1; have HV2 := hid hv2; clear he1 hv1 hv2; (first | have hq1 := hz1 | have hq1 := True.intro); (first | have hq0 := hz0 | have hq0 := True.intro); obtain ⟨hcc, hff⟩ := bcell hb1; have hz1 := hb1.size; (try simp at hz1); (try have hy1 := Nat.lt_of_lt_of_le hq1 hz1); (try have hy0 := Nat.lt_of_lt_of_le hq0 hz1); (try replace hz1 := Nat.lt_of_succ_le hz1); (try have hz0 := Nat.lt_of_succ_lt hz1)) | go_in)
  refine bodyPost_ret (v := .tuple #[.int .u64 v1, .int .i64 n1, .int .i64 k1]) ?_ rfl ⟨_, _, _, rfl, ?_, ?_, ?_, ?_⟩
  · simp [results, Try.results16, go_sem]
  · exact HE1.out
  · intro h; exact ⟨(HV1.out h).1, (HV1.out h).2.1⟩
  · exact HV2.out
  · exact (by repeat (first | exact Below.refl _ _ | assumption | refine Below.alloc ?_ (by first | exact Nat.le_refl _ | (simp; done) | (simp; omega) | omega) _ | refine Below.drew ?_ | refine Below.setCell ?_ (by first | exact Nat.le_refl _ | (simp; done) | (simp; omega) | omega) _ | refine below_call ?_ (by assumption) (by first | exact Nat.le_refl _ | (simp; done) | (simp; omega) | omega)))

/-- the number of 64 bits moved up and down again: the highest bit that counts is the sign -/
def sgn (v n : Int) : Int := wrap64 (IntKind.u64.wrap (v * 2 ^ (64 - min 64 (7 * n)).toNat)) / 2 ^ (64 - min 64 (7 * n)).toNat

def sPost (w : World) (b : Int) (l : List Int) (e : Ending) (w' : World) : Prop :=
  ∃ v n k, e = .returned (.tuple #[.int .i64 v, .int .i64 n, .int .i64 k]) ∧ endF 32 b l = (n, k) ∧ (k = 0 → v = sgn (val (l.take n.toNat) % 18446744073709551616) n ∧ 1 ≤ n) ∧ (k ≠ 0 → v = 0) ∧ Below w.heap.size w w'

set_option maxHeartbeats 2000000 in
theorem lebS (w : World) (B : Nat) (A : Option Addr) (c : Nat) (l : List Int) (n : Int) (hB : B ≤ w.heap.size) (hsrc : Src w B A c l) (hl : ∀ x ∈ l, 0 ≤ x ∧ x < 256) (hlen : l.length ≤ 1000000000) :
    Calls Try.prog 19 #[.slice A l.length c, .int .i64 n] w (sPost w (bitsI n) l) := by
  obtain ⟨b0, b1⟩ := bitsI_le n
  obtain ⟨m0, m1, m2⟩ := most_le b0 b1
  have HS := hid hsrc
  have HM := hid m0
  have HLL := hid hl
  clear hsrc m0 hl
  go_enter Try.func19, Try.ntmps19
  go_wp2_with (first | (go_at_call 28; refine (lebWithin _ n).mono ?_; rintro e w' ⟨rfl, hb1⟩; (first | have hq1 := hz1 | have hq1 := True.intro); (first | have hq0 := hz0 | have hq0 := True.intro); obtain ⟨hcc, hff⟩ := bcell hb1; have hz1 := hb1.size; (try simp at hz1); (try have hy1 := Nat.lt_of_lt_of_le hq1 hz1); (try have hy0 := Nat.lt_of_lt_of_le hq0 hz1); (try replace hz1 := Nat.lt_of_succ_le hz1); (try have hz0 := Nat.lt_of_succ_lt hz1)) | (go_at_call 27; refine (digits_walk 32 (.inr rfl) _ B A c l (bitsI n) (most (bitsI n)) b0 b1 HM.out (by omega) (HS.out.below (by first | assumption | exact hb1) hB) HLL.out hlen).mono ?_; rintro e w' ⟨v1, n1, x1, k1, rfl, he1, hv1, hv2, hb1⟩; have hr1 := ends_range (fun x => okF 32 x (bitsI n - 7 * ((most (bitsI n) : Int) - 1))) (most (bitsI n)) 0 l; rw [he1] at hr1; have hr2 := hr1.1; have hr3 := hr1.2.1; (simp only [] at hr2 hr3); have HR := hid hr1; clear hr1; have HE1 := hid he1; have HV1 := hid hv1; have HV2 := hid hv2; clear he1 hv1 hv2; (first | have hq1 := hz1 | have hq1 := True.intro); (first | have hq0 := hz0 | have hq0 := True.intro); obtain ⟨hcc, hff⟩ := bcell hb1; have hz1 := hb1.size; (try simp at hz1); (try have hy1 := Nat.lt_of_lt_of_le hq1 hz1); (try have hy0 := Nat.lt_of_lt_of_le hq0 hz1); (try replace hz1 := Nat.lt_of_succ_le hz1); (try have hz0 := Nat.lt_of_succ_lt hz1)) | go_in)
  · have hk : k1 ≠ 0 := by simp_all
    refine bodyPost_ret (v := .tuple #[.int .i64 0, .int .i64 n1, .int .i64 k1]) ?_ rfl ⟨_, _, _, rfl, ?_, ?_, ?_, ?_⟩
    · simp [results, Try.results19, go_sem]
    · exact HE1.out
    · intro h; exact absurd h hk
    · intro _; rfl
    · exact (by repeat (first | exact Below.refl _ _ | assumption | refine Below.alloc ?_ (by first | exact Nat.le_refl _ | (simp; done) | (simp; omega) | omega) _ | refine Below.drew ?_ | refine Below.setCell ?_ (by first | exact Nat.le_refl _ | (simp; done) | (simp; omega) | omega) _ | refine below_call ?_ (by assumption) (by first | exact Nat.le_refl _ | (simp; done) | (simp; omega) | omega)))
  · have hk : k1 = 0 := by simp_all
    refine bodyPost_ret (v := .tuple #[.int .i64 (wrap64 (IntKind.u64.wrap (v1 * 2 ^ (64 - 7 * n1).toNat)) / 2 ^ (64 - 7 * n1).toNat), .int .i64 n1, .int .i64 0]) ?_ rfl ⟨_, _, _, rfl, ?_, ?_, ?_, ?_⟩
    · simp [results, Try.results19, go_sem]
    · rw [← hk]; exact HE1.out
    · intro _; obtain ⟨q1, q2, q3⟩ := HV1.out hk; exact ⟨by rw [sgn, Int.min_eq_right (by omega), ← q1], q2⟩
    · intro h; exact absurd rfl h
    · exact (by repeat (first | exact Below.refl _ _ | assumption | refine Below.alloc ?_ (by first | exact Nat.le_refl _ | (simp; done) | (simp; omega) | omega) _ | refine Below.drew ?_ | refine Below.setCell ?_ (by first | exact Nat.le_refl _ | (simp; done) | (simp; omega) | omega) _ | refine below_call ?_ (by assumption) (by first | exact Nat.le_refl _ | (simp; done) | (simp; omega) | omega)))
  · have hk : k1 = 0 := by simp_all
    refine bodyPost_ret (v := .tuple #[.int .i64 (wrap64 (IntKind.u64.wrap v1)), .int .i64 n1, .int .i64 0]) ?_ rfl ⟨_, _, _, rfl, ?_, ?_, ?_, ?_⟩
    · simp [results, Try.results19, go_sem]
    · rw [← hk]; exact HE1.out
    · intro _; obtain ⟨q1, q2, q3⟩ := HV1.out hk; exact ⟨by rw [sgn, Int.min_eq_left (by omega), ← q1]; simp, q2⟩
    · intro h; exact absurd rfl h
    · exact (by repeat (first | exact Below.refl _ _ | assumption | refine Below.alloc ?_ (by first | exact Nat.le_refl _ | (simp; done) | (simp; omega) | omega) _ | refine Below.drew ?_ | refine Below.setCell ?_ (by first | exact Nat.le_refl _ | (simp; done) | (simp; omega) | omega) _ | refine below_call ?_ (by assumption) (by first | exact Nat.le_refl _ | (simp; done) | (simp; omega) | omega)))

end Go.Proofs.Ytlpocahflolmpaa
