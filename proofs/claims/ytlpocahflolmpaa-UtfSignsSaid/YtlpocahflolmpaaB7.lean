/- The digits together: leb.digits. -/
import Derived.Test.YtlpocahflolmpaaB6
import Derived.Laws.BitsAllLaws
namespace Go.Proofs.Ytlpocahflolmpaa
set_option linter.unusedVariables false
set_option linter.unusedSimpArgs false
open Go.RowKit

/-- a number by sevens, the lowest first -/
def val : List Int → Int
  | [] => 0
  | x :: t => x % 128 + 128 * val t
/-- how many bytes a number has, or where it goes wrong; what is wrong. 'ok': of the last byte that there may be -/
def ends (ok : Int → Bool) : Nat → Nat → List Int → Int × Int
  | i, 0, _ => (i, 2)
  | i, k + 1, [] => (i, 1)
  | i, k + 1, x :: t => if k = 0 ∧ (128 ≤ x ∨ ok x = false) then (i, 2) else if x < 128 then (i + 1, 0) else ends ok (i + 1) k t

theorem val_app (l : List Int) (x : Int) : val (l ++ [x]) = val l + (x % 128) * 128 ^ l.length := by
  induction l with
  | nil => simp [val]
  | cons a l ih => simp only [List.cons_append, val, ih, List.length_cons, Int.pow_succ, Int.mul_add]; rw [Int.add_assoc, Int.mul_left_comm, Int.mul_comm 128 (128 ^ _)]
theorem val_lt (l : List Int) : 0 ≤ val l ∧ val l < 128 ^ l.length := by
  induction l with
  | nil => simp [val]
  | cons a l ih => simp only [val, List.length_cons, Int.pow_succ]; omega

theorem or_digit (v d : Int) (i : Nat) (hi : i ≤ 9) (hv0 : 0 ≤ v) (hv : v < 128 ^ i) (hd : 0 ≤ d) (hd1 : d < 128) : bits .or .u64 v (IntKind.u64.wrap (d * 2 ^ (7 * i))) = (v + d * 128 ^ i) % 18446744073709551616 := by
  have key : ∀ (a q k : Nat), a < 2 ^ k → a ||| (q * 2 ^ k) = a + q * 2 ^ k := by
    intro a q k h
    have := Nat.shiftLeft_add_eq_or_of_lt h q
    rw [Nat.shiftLeft_eq] at this
    rw [Nat.or_comm, ← this, Nat.add_comm]
  have main : ∀ (k : Nat) (q : Int), 0 ≤ q → v < 2 ^ k → IntKind.u64.wrap (d * 2 ^ (7 * i)) = q * 2 ^ k → q * 2 ^ k < 18446744073709551616 → v < 18446744073709551616 → bits .or .u64 v (IntKind.u64.wrap (d * 2 ^ (7 * i))) = v + q * 2 ^ k := by
    intro k q hq h1 h2 h3 h4
    obtain ⟨a, rfl⟩ : ∃ a : Nat, v = a := ⟨v.toNat, by omega⟩
    obtain ⟨q', rfl⟩ : ∃ a : Nat, q = a := ⟨q.toNat, by omega⟩
    have e : ((q' : Nat) : Int) * 2 ^ k = ((q' * 2 ^ k : Nat) : Int) := by push_cast; rfl
    rw [h2, e, u64_or_nat _ _ (by omega) (by rw [e] at h3; omega), key a q' k (by exact_mod_cast h1)]
    push_cast; rfl
  match i, hi with
  | 0, _ => rw [main 0 d hd (by simpa using hv) (by rw [wu]; simp; omega) (by omega) (by omega)]; simp; omega
  | 1, _ => rw [main 7 d hd (by simpa using hv) (by rw [wu]; simp; omega) (by omega) (by omega)]; omega
  | 2, _ => rw [main 14 d hd (by simpa using hv) (by rw [wu]; simp; omega) (by omega) (by omega)]; omega
  | 3, _ => rw [main 21 d hd (by simpa using hv) (by rw [wu]; simp; omega) (by omega) (by omega)]; omega
  | 4, _ => rw [main 28 d hd (by simpa using hv) (by rw [wu]; simp; omega) (by omega) (by omega)]; omega
  | 5, _ => rw [main 35 d hd (by simpa using hv) (by rw [wu]; simp; omega) (by omega) (by omega)]; omega
  | 6, _ => rw [main 42 d hd (by simpa using hv) (by rw [wu]; simp; omega) (by omega) (by omega)]; omega
  | 7, _ => rw [main 49 d hd (by simpa using hv) (by rw [wu]; simp; omega) (by omega) (by omega)]; omega
  | 8, _ => rw [main 56 d hd (by simpa using hv) (by rw [wu]; simp; omega) (by omega) (by omega)]; omega
  | 9, _ => rw [main 63 (d % 2) (by omega) (by simpa using hv) (by rw [wu]; simp; omega) (by omega) (by omega)]; omega

theorem pow128 {a b : Nat} (h : a ≤ b) : (128 : Int) ^ a ≤ 128 ^ b := by
  have := Nat.pow_le_pow_right (n := 128) (by decide) h
  exact_mod_cast this

def digPost (w : World) (ok : Int → Bool) (m : Nat) (l : List Int) (e : Ending) (w' : World) : Prop :=
  ∃ v n x k, e = .returned (.tuple #[.int .u64 v, .int .i64 n, .int .u8 x, .int .i64 k]) ∧ ends ok 0 m l = (n, k) ∧ (k = 0 → v = val (l.take n.toNat) % 18446744073709551616 ∧ 1 ≤ n ∧ l[n.toNat - 1]? = some x) ∧ (k ≠ 0 → v = 0) ∧ Below w.heap.size w w'

set_option maxHeartbeats 2000000 in
theorem digits_walk (f : Nat) (hf : f = 29 ∨ f = 32) (w : World) (B : Nat) (A : Option Addr) (c : Nat) (l : List Int) (nb : Int) (m : Nat) (hn0 : 1 ≤ nb) (hn1 : nb ≤ 64) (hm : (m : Int) = (nb + 6) / 7) (hB : B ≤ w.heap.size) (hsrc : Src w B A c l) (hl : ∀ x ∈ l, 0 ≤ x ∧ x < 256) (hlen : l.length ≤ 1000000000) :
    Calls Try.prog 27 #[.slice A l.length c, .int .i64 nb, .func (.func f) #[] #[]] w (digPost w (fun x => okF f x (nb - 7 * (m - 1))) m l) := by
  have HS := hid hsrc
  have HM := hid hm
  clear hsrc hm
  go_enter Try.func27, Try.ntmps27
  go_wp2
  have e1 : (nb + 7 - 1) / 7 = (m : Int) := by rw [HM.out]; omega
  go_loopw [11, 19] (fun v11 v19 wr => ∃ (i : Nat) (v : Int), v19 = .int .i64 i ∧ v11 = .int .u64 v ∧ i < m ∧ Hid (v = val (l.take i)) ∧ i ≤ l.length ∧ Hid (ends (fun x => okF f x (nb - 7 * (m - 1))) 0 m l = ends (fun x => okF f x (nb - 7 * (m - 1))) i (m - i) (l.drop i)) ∧ w.heap.size ≤ wr.heap.size ∧ Hid (Below w.heap.size w wr)) (fun _ v19 _ => m - (intOf v19).toNat)
  case atStart => exact ⟨0, 0, by go_num, rfl, by omega, hid (by simp [val]), by omega, hid (by simp), Nat.le_refl _, Below.refl _ _⟩
  case round =>
    obtain ⟨i, v, rfl, rfl, him, HV, hil, HE, hsz, HB⟩ := hrel
    have hm10 : m ≤ 10 := by have := HM.out; omega
    rcases Nat.lt_or_ge i l.length with hi | hi
    · obtain ⟨x, hx⟩ : ∃ x, l[i]? = some x := ⟨l[i], List.getElem?_eq_getElem hi⟩
      obtain ⟨ad, hA, hcell⟩ : ∃ ad, A = some ad ∧ wr.cell? (ad.add i) = some (.int .u8 x) := by
        have := HS.out.below HB.out hB
        rcases this with ⟨_, _, h⟩ | ⟨ad, h1, _, h2⟩
        · subst h; simp at hi
        · exact ⟨ad, h1, h2 i _ (by simp [bv, hx])⟩
      obtain ⟨hx0, hx1⟩ := hl x (List.mem_of_getElem? hx)
      have hand := and127 x hx0 hx1
      subst hA
      have HX := hid hx
      clear hx hl
      have hv0 := val_lt (l.take i)
      rw [← HV.out, List.length_take, Nat.min_eq_left hil] at hv0
      have HO := hid (or_digit v (x % 128) i (by omega) hv0.1 hv0.2 (by omega) (by omega))
      have HT := hid (show v + x % 128 * 128 ^ i = val (l.take (i + 1)) by
        rw [List.take_add_one, HX.out]; simp only [Option.toList_some]; rw [val_app, List.length_take, Nat.min_eq_left hil, ← HV.out])
      obtain ⟨k, hk⟩ : ∃ k, m - i = k + 1 := ⟨m - i - 1, by omega⟩
      have hdrop : l.drop i = x :: l.drop (i + 1) := by
        rw [List.drop_eq_getElem_cons hi]; congr 1; have := HX.out; rw [List.getElem?_eq_getElem hi] at this; simpa using this
      have HE2 := HE.out
      rw [hk, hdrop] at HE2
      simp only [ends] at HE2
      replace HE2 := hid HE2
      have HK := hid hk
      clear hv0 hk hdrop HE
      rcases Nat.lt_or_ge (i + 1) m with hlast | hlast
      · have hk0 : k ≠ 0 := by have := HK.out; omega
        by_cases hsmall : x < 128
        · go_wp2
          refine bodyPost_ret (v := .tuple #[.int .u64 (bits .or .u64 v (IntKind.u64.wrap (x % 128 * 2 ^ (7 * i)))), .int .i64 (i + 1), .int .u8 x, .int .i64 0]) ?_ rfl ⟨_, _, _, _, rfl, ?_, ?_, ?_, ?_⟩
          · (first | (simp [results, Try.results27, go_sem]; done) | (simp [results, Try.results27, go_sem]; omega))
          · rw [HE2.out, if_neg (by omega), if_pos hsmall]
          · intro _; refine ⟨?_, by omega, ?_⟩
            · rw [HO.out, HT.out]; rfl
            · have : ((i : Int) + 1).toNat - 1 = i := by omega
              rw [this]; exact HX.out
          · intro h; exact absurd rfl h
          · exact HB.out
        · go_wp2
          go_roundw
          case rel =>
            refine ⟨_, _, _, _, _, _, _, _, ⟨i + 1, ?_, bits .or .u64 v (IntKind.u64.wrap (x % 128 * 2 ^ (7 * i))), ?_, hlast, ?_, by omega, ?_⟩, rfl, rfl, rfl, rfl, rfl, rfl, rfl, rfl⟩
            · go_num
            · rfl
            · refine hid ?_
              have h9 := val_lt (l.take (i + 1))
              rw [List.length_take, Nat.min_eq_left (show i + 1 ≤ l.length from hi)] at h9
              have h10 : (128 : Int) ^ (i + 1) ≤ 128 ^ 9 := pow128 (by omega)
              rw [HO.out, HT.out]
              exact Int.emod_eq_of_lt h9.1 (by omega)
            · refine hid ?_
              rw [HE2.out, if_neg (by omega), if_neg (show ¬ x < 128 by omega)]
              congr 1; have := HK.out; omega
          case measure => simp [intOf]; omega
      · have hk0 : k = 0 := by have := HK.out; omega
        have hc0 : 1 ≤ nb - 7 * ((m : Int) - 1) := by have := HM.out; omega
        have hc1 : nb - 7 * ((m : Int) - 1) ≤ 7 := by have := HM.out; omega
        by_cases hsmall : x < 128
        · rcases hq : okF f x (nb - 7 * ((m : Int) - 1)) with _ | _
          · have HQ := hid (show okF f x (nb - 7 * (m - 1)) = false from hq)
            rcases hf with rfl | rfl
            · go_wp2_with (first | (go_at_call 29; refine (ok_walk 29 (.inl rfl) _ x _ hx0 hx1 hc0 hc1).mono ?_; rintro e w' ⟨rfl, hb1⟩; (first | have hq1 := hz1 | have hq1 := True.intro); (first | have hq0 := hz0 | have hq0 := True.intro); obtain ⟨hcc, hff⟩ := bcell hb1; have hz1 := hb1.size; (try simp at hz1); (try have hy1 := Nat.lt_of_lt_of_le hq1 hz1); (try have hy0 := Nat.lt_of_lt_of_le hq0 hz1); (try replace hz1 := Nat.lt_of_succ_le hz1); (try have hz0 := Nat.lt_of_succ_lt hz1)) | go_in)
              refine bodyPost_ret (v := .tuple #[.int .u64 0, .int .i64 i, .int .u8 0, .int .i64 2]) ?_ rfl ⟨_, _, _, _, rfl, ?_, ?_, ?_, ?_⟩
              · (first | (simp [results, Try.results27, go_sem]; done) | (simp [results, Try.results27, go_sem]; omega))
              · rw [HE2.out, if_pos ⟨hk0, .inr HQ.out⟩]
              · intro h; simp at h
              · intro _; rfl
              · exact below_call HB.out hb1 (by omega)
            · go_wp2_with (first | (go_at_call 32; refine (ok_walk 32 (.inr rfl) _ x _ hx0 hx1 hc0 hc1).mono ?_; rintro e w' ⟨rfl, hb1⟩; (first | have hq1 := hz1 | have hq1 := True.intro); (first | have hq0 := hz0 | have hq0 := True.intro); obtain ⟨hcc, hff⟩ := bcell hb1; have hz1 := hb1.size; (try simp at hz1); (try have hy1 := Nat.lt_of_lt_of_le hq1 hz1); (try have hy0 := Nat.lt_of_lt_of_le hq0 hz1); (try replace hz1 := Nat.lt_of_succ_le hz1); (try have hz0 := Nat.lt_of_succ_lt hz1)) | go_in)
              refine bodyPost_ret (v := .tuple #[.int .u64 0, .int .i64 i, .int .u8 0, .int .i64 2]) ?_ rfl ⟨_, _, _, _, rfl, ?_, ?_, ?_, ?_⟩
              · (first | (simp [results, Try.results27, go_sem]; done) | (simp [results, Try.results27, go_sem]; omega))
              · rw [HE2.out, if_pos ⟨hk0, .inr HQ.out⟩]
              · intro h; simp at h
              · intro _; rfl
              · exact below_call HB.out hb1 (by omega)
          · have HQ := hid (show okF f x (nb - 7 * (m - 1)) = true from hq)
            rcases hf with rfl | rfl
            · go_wp2_with (first | (go_at_call 29; refine (ok_walk 29 (.inl rfl) _ x _ hx0 hx1 hc0 hc1).mono ?_; rintro e w' ⟨rfl, hb1⟩; (first | have hq1 := hz1 | have hq1 := True.intro); (first | have hq0 := hz0 | have hq0 := True.intro); obtain ⟨hcc, hff⟩ := bcell hb1; have hz1 := hb1.size; (try simp at hz1); (try have hy1 := Nat.lt_of_lt_of_le hq1 hz1); (try have hy0 := Nat.lt_of_lt_of_le hq0 hz1); (try replace hz1 := Nat.lt_of_succ_le hz1); (try have hz0 := Nat.lt_of_succ_lt hz1)) | go_in)
              refine bodyPost_ret (v := .tuple #[.int .u64 (bits .or .u64 v (IntKind.u64.wrap (x % 128 * 2 ^ (7 * i)))), .int .i64 (i + 1), .int .u8 x, .int .i64 0]) ?_ rfl ⟨_, _, _, _, rfl, ?_, ?_, ?_, ?_⟩
              · (first | (simp [results, Try.results27, go_sem]; done) | (simp [results, Try.results27, go_sem]; omega))
              · rw [HE2.out, if_neg (by rw [HQ.out]; simp; omega), if_pos hsmall]
              · intro _; refine ⟨?_, by omega, ?_⟩
                · rw [HO.out, HT.out]; rfl
                · have : ((i : Int) + 1).toNat - 1 = i := by omega
                  rw [this]; exact HX.out
              · intro h; exact absurd rfl h
              · exact below_call HB.out hb1 (by omega)
            · go_wp2_with (first | (go_at_call 32; refine (ok_walk 32 (.inr rfl) _ x _ hx0 hx1 hc0 hc1).mono ?_; rintro e w' ⟨rfl, hb1⟩; (first | have hq1 := hz1 | have hq1 := True.intro); (first | have hq0 := hz0 | have hq0 := True.intro); obtain ⟨hcc, hff⟩ := bcell hb1; have hz1 := hb1.size; (try simp at hz1); (try have hy1 := Nat.lt_of_lt_of_le hq1 hz1); (try have hy0 := Nat.lt_of_lt_of_le hq0 hz1); (try replace hz1 := Nat.lt_of_succ_le hz1); (try have hz0 := Nat.lt_of_succ_lt hz1)) | go_in)
              refine bodyPost_ret (v := .tuple #[.int .u64 (bits .or .u64 v (IntKind.u64.wrap (x % 128 * 2 ^ (7 * i)))), .int .i64 (i + 1), .int .u8 x, .int .i64 0]) ?_ rfl ⟨_, _, _, _, rfl, ?_, ?_, ?_, ?_⟩
              · (first | (simp [results, Try.results27, go_sem]; done) | (simp [results, Try.results27, go_sem]; omega))
              · rw [HE2.out, if_neg (by rw [HQ.out]; simp; omega), if_pos hsmall]
              · intro _; refine ⟨?_, by omega, ?_⟩
                · rw [HO.out, HT.out]; rfl
                · have : ((i : Int) + 1).toNat - 1 = i := by omega
                  rw [this]; exact HX.out
              · intro h; exact absurd rfl h
              · exact below_call HB.out hb1 (by omega)
        · go_wp2
          refine bodyPost_ret (v := .tuple #[.int .u64 0, .int .i64 i, .int .u8 0, .int .i64 2]) ?_ rfl ⟨_, _, _, _, rfl, ?_, ?_, ?_, ?_⟩
          · (first | (simp [results, Try.results27, go_sem]; done) | (simp [results, Try.results27, go_sem]; omega))
          · rw [HE2.out, if_pos ⟨hk0, .inl (by omega)⟩]
          · intro h; simp at h
          · intro _; rfl
          · exact HB.out
    · have hi2 : l.length = i := by omega
      go_wp2
      refine bodyPost_ret (v := .tuple #[.int .u64 0, .int .i64 i, .int .u8 0, .int .i64 1]) ?_ rfl ⟨_, _, _, _, rfl, ?_, ?_, ?_, ?_⟩
      · (first | (simp [results, Try.results27, go_sem]; done) | (simp [results, Try.results27, go_sem]; omega))
      · obtain ⟨k, hk⟩ : ∃ k, m - i = k + 1 := ⟨m - i - 1, by omega⟩
        rw [HE.out, hk, List.drop_eq_nil_of_le hi, ends]
      · intro h; simp at h
      · intro _; rfl
      · exact HB.out

end Go.Proofs.Ytlpocahflolmpaa
