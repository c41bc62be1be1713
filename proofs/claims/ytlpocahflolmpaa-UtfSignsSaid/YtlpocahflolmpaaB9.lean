/- The reference: how many bytes there may be, where a number ends. -/
import Derived.Test.YtlpocahflolmpaaB8
namespace Go.Proofs.Ytlpocahflolmpaa
set_option linter.unusedVariables false
set_option linter.unusedSimpArgs false
open Go.RowKit

set_option maxHeartbeats 2000000 in
theorem refMost (w : World) (b : Int) (h0 : 1 ≤ b) (h1 : b ≤ 64) : Calls Try.prog 31 #[.int .i64 b] w (fun e w' => e = .returned (.int .i64 (most b)) ∧ Below w.heap.size w w') := by
  have hm := (most_le h0 h1).1
  go_enter Try.func31, Try.ntmps31
  rcases Int.lt_or_le (b % 7) 1 with h7 | h7
  · have h8 : b % 7 = 0 := by omega
    go_wp2
    go_ret
    refine ⟨ret_int ?_, (by repeat (first | exact Below.refl _ _ | assumption | refine Below.alloc ?_ (by first | exact Nat.le_refl _ | (simp; done) | (simp; omega) | omega) _ | refine Below.drew ?_ | refine Below.setCell ?_ (by first | exact Nat.le_refl _ | (simp; done) | (simp; omega) | omega) _ | refine below_call ?_ (by assumption) (by first | exact Nat.le_refl _ | (simp; done) | (simp; omega) | omega)))⟩
    rw [hm]
    omega
  · have h8 : ¬ b % 7 = 0 := by omega
    go_wp2
    go_ret
    refine ⟨ret_int ?_, (by repeat (first | exact Below.refl _ _ | assumption | refine Below.alloc ?_ (by first | exact Nat.le_refl _ | (simp; done) | (simp; omega) | omega) _ | refine Below.drew ?_ | refine Below.setCell ?_ (by first | exact Nat.le_refl _ | (simp; done) | (simp; omega) | omega) _ | refine below_call ?_ (by assumption) (by first | exact Nat.le_refl _ | (simp; done) | (simp; omega) | omega)))⟩
    rw [hm]
    omega

def endT (b : Int) (l : List Int) : Int × Int := ends (fun _ => true) 0 (most b) l
def endPost (w : World) (b : Int) (l : List Int) (e : Ending) (w' : World) : Prop := ∃ n k, e = .returned (.tuple #[.int .i64 n, .int .i64 k]) ∧ endT b l = (n, k) ∧ Below w.heap.size w w'

set_option maxHeartbeats 2000000 in
theorem refEnd (w : World) (B : Nat) (A : Option Addr) (c : Nat) (l : List Int) (b : Int) (b0 : 1 ≤ b) (b1 : b ≤ 64) (hB : B ≤ w.heap.size) (hsrc : Src w B A c l) (hl : ∀ x ∈ l, 0 ≤ x ∧ x < 256) (hlen : l.length ≤ 1000000000) :
    Calls Try.prog 30 #[.slice A l.length c, .int .i64 b] w (endPost w b l) := by
  have hmm := most_le b0 b1
  obtain ⟨m, hm⟩ : ∃ m, most b = m := ⟨_, rfl⟩
  rw [hm] at hmm
  obtain ⟨m0, m1, m2⟩ := hmm
  have HMB := hid hm
  have HS := hid hsrc
  have HLL := hid hl
  clear hsrc m0 hm hl
  go_enter Try.func30, Try.ntmps30
  go_wp2
  go_loopw [6] (fun v6 wr => ∃ (i : Nat), v6 = .int .i64 i ∧ i ≤ m ∧ i ≤ l.length ∧ Hid (i < m → endT b l = ends (fun _ => true) i (m - i) (l.drop i)) ∧ Hid (i = m → endT b l = ((m : Int) - 1, 2)) ∧ w.heap.size ≤ wr.heap.size ∧ Hid (Below w.heap.size w wr)) (fun v6 _ => m - (intOf v6).toNat)
  case atStart => exact ⟨0, by go_num, by omega, by omega, hid (fun _ => by simp [endT, HMB.out]), hid (fun h => by omega), Nat.le_refl _, Below.refl _ _⟩
  case round =>
    obtain ⟨i, rfl, him, hil, HE, HLA, hsz, HB⟩ := hrel
    rcases Nat.lt_or_ge i m with hi | hi
    · obtain ⟨k, hk⟩ : ∃ k, m - i = k + 1 := ⟨m - i - 1, by omega⟩
      have HK := hid hk
      clear hk
      rcases Nat.lt_or_ge i l.length with hj | hj
      · obtain ⟨x, hx⟩ : ∃ x, l[i]? = some x := ⟨l[i], List.getElem?_eq_getElem hj⟩
        obtain ⟨hx0, hx1⟩ := HLL.out x (List.mem_of_getElem? hx)
        have hdrop : l.drop i = x :: l.drop (i + 1) := by
          rw [List.drop_eq_getElem_cons hj]; congr 1; rw [List.getElem?_eq_getElem hj] at hx; simpa using hx
        obtain ⟨ad, rfl, hbl, hcell⟩ : ∃ ad, A = some ad ∧ ad.block < wr.heap.size ∧ wr.cell? (ad.add i) = some (.int .u8 x) := by
          have := HS.out.below HB.out hB
          rcases this with ⟨_, _, h⟩ | ⟨ad, h1, h3, h2⟩
          · subst h; simp at hj
          · exact ⟨ad, h1, by have := h3 (by rintro rfl; simp at hj); omega, h2 i _ (by simp [bv, hx])⟩
        have HD := hid hdrop
        have HX := hid hx
        clear hdrop hx
        by_cases hs : x < 128
        · go_wp2_with (first | (go_at_call 31; refine (refMost _ b b0 b1).mono ?_; rintro e w' ⟨rfl, hb1⟩; (try rw [HMB.out]); (first | have hq1 := hz1 | have hq1 := True.intro); (first | have hq0 := hz0 | have hq0 := True.intro); obtain ⟨hcc, hff⟩ := bcell hb1; have hz1 := hb1.size; (try simp at hz1); (try have hy1 := Nat.lt_of_lt_of_le hq1 hz1); (try have hy0 := Nat.lt_of_lt_of_le hq0 hz1); (try replace hz1 := Nat.lt_of_succ_le hz1); (try have hz0 := Nat.lt_of_succ_lt hz1); have hcell2 := (hb1.cell (p := ad.add i) (by unfold Addr.add; split <;> exact hbl)).trans hcell) | go_in)
          refine bodyPost_ret (v := .tuple #[.int .i64 (i + 1), .int .i64 0]) ?_ rfl ⟨_, _, rfl, ?_, ?_⟩
          · (first | (simp [results, Try.results30, go_sem]; done) | (simp [results, Try.results30, go_sem]; omega))
          · rw [HE.out hi, HK.out, HD.out]; simp only [ends]; rw [if_neg (by simp; omega), if_pos hs]
          · exact below_call HB.out (by assumption) (by omega)
        · go_wp2_with (first | (go_at_call 31; refine (refMost _ b b0 b1).mono ?_; rintro e w' ⟨rfl, hb1⟩; (try rw [HMB.out]); (first | have hq1 := hz1 | have hq1 := True.intro); (first | have hq0 := hz0 | have hq0 := True.intro); obtain ⟨hcc, hff⟩ := bcell hb1; have hz1 := hb1.size; (try simp at hz1); (try have hy1 := Nat.lt_of_lt_of_le hq1 hz1); (try have hy0 := Nat.lt_of_lt_of_le hq0 hz1); (try replace hz1 := Nat.lt_of_succ_le hz1); (try have hz0 := Nat.lt_of_succ_lt hz1); have hcell2 := (hb1.cell (p := ad.add i) (by unfold Addr.add; split <;> exact hbl)).trans hcell) | go_in)
          go_roundw
          case rel => exact ⟨i + 1, by go_num, by omega, by omega, hid (fun h => by
              rw [HE.out hi, HK.out, HD.out]; simp only [ends]; rw [if_neg (by have := HK.out; omega), if_neg (by omega)]; congr 1; have := HK.out; omega), hid (fun h => by
              rw [HE.out hi, HK.out, HD.out]; simp only [ends]; rw [if_pos ⟨by have := HK.out; omega, .inl (by omega)⟩]; congr 1; omega), by omega, hid (below_call HB.out (by assumption) (by omega))⟩
          case measure => simp [intOf]; omega
      · have hj2 : l.length = i := by omega
        go_wp2_with (first | (go_at_call 31; refine (refMost _ b b0 b1).mono ?_; rintro e w' ⟨rfl, hb1⟩; (try rw [HMB.out]); (first | have hq1 := hz1 | have hq1 := True.intro); (first | have hq0 := hz0 | have hq0 := True.intro); obtain ⟨hcc, hff⟩ := bcell hb1; have hz1 := hb1.size; (try simp at hz1); (try have hy1 := Nat.lt_of_lt_of_le hq1 hz1); (try have hy0 := Nat.lt_of_lt_of_le hq0 hz1); (try replace hz1 := Nat.lt_of_succ_le hz1); (try have hz0 := Nat.lt_of_succ_lt hz1)) | go_in)
        refine bodyPost_ret (v := .tuple #[.int .i64 i, .int .i64 1]) ?_ rfl ⟨_, _, rfl, ?_, ?_⟩
        · (first | (simp [results, Try.results30, go_sem]; done) | (simp [results, Try.results30, go_sem]; omega))
        · rw [HE.out hi, HK.out, List.drop_eq_nil_of_le hj]; rfl
        · exact below_call HB.out (by assumption) (by omega)
    · have hi2 : i = m := by omega
      go_wp2_with (first | (go_at_call 31; refine (refMost _ b b0 b1).mono ?_; rintro e w' ⟨rfl, hb1⟩; (try rw [HMB.out]); (first | have hq1 := hz1 | have hq1 := True.intro); (first | have hq0 := hz0 | have hq0 := True.intro); obtain ⟨hcc, hff⟩ := bcell hb1; have hz1 := hb1.size; (try simp at hz1); (try have hy1 := Nat.lt_of_lt_of_le hq1 hz1); (try have hy0 := Nat.lt_of_lt_of_le hq0 hz1); (try replace hz1 := Nat.lt_of_succ_le hz1); (try have hz0 := Nat.lt_of_succ_lt hz1)) | go_in)
      refine bodyPost_ret (v := .tuple #[.int .i64 ((m : Int) - 1), .int .i64 2]) ?_ rfl ⟨_, _, rfl, ?_, ?_⟩
      · (first | (simp [results, Try.results30, go_sem]; done) | (simp [results, Try.results30, go_sem]; omega))
      · exact HLA.out hi2
      · exact (below_call (below_call HB.out (by assumption) (by omega)) (by assumption) (by omega))

end Go.Proofs.Ytlpocahflolmpaa
