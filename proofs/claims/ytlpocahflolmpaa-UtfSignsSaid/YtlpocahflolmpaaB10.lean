/- The reference's U: the number without a sign, by definition. -/
import Derived.Test.YtlpocahflolmpaaL1
namespace Go.Proofs.Ytlpocahflolmpaa
set_option linter.unusedVariables false
set_option linter.unusedSimpArgs false
open Go.RowKit

theorem ends_of (ok : Int → Bool) (k : Nat) : ∀ (i : Nat) (l : List Int) (n e : Int), ends (fun _ => true) i k l = (n, e) →
    (e ≠ 0 → ends ok i k l = (n, e)) ∧ (e = 0 → ∃ (j : Nat) (x : Int), n = i + j + 1 ∧ l[j]? = some x ∧ x < 128 ∧ j < k ∧ (ends ok i k l = if j + 1 = k ∧ ok x = false then (n - 1, 2) else (n, 0))) := by
  induction k with
  | zero => intro i l n e h; simp only [ends, Prod.mk.injEq] at h ⊢; obtain ⟨rfl, rfl⟩ := h; simp
  | succ k ih =>
    intro i l n e h
    match l with
    | [] => simp only [ends, Prod.mk.injEq] at h ⊢; obtain ⟨rfl, rfl⟩ := h; simp
    | x :: t =>
      simp only [ends] at h ⊢
      by_cases h1 : k = 0 ∧ 128 ≤ x
      · rw [if_pos ⟨h1.1, .inl h1.2⟩] at h
        obtain ⟨rfl, rfl⟩ := Prod.mk.inj h
        exact ⟨fun _ => by rw [if_pos ⟨h1.1, .inl h1.2⟩], fun h => by omega⟩
      · rw [if_neg (by simp; omega)] at h
        by_cases h2 : x < 128
        · rw [if_pos h2] at h
          obtain ⟨rfl, rfl⟩ := Prod.mk.inj h
          refine ⟨fun h => absurd rfl h, fun _ => ⟨0, x, by omega, rfl, h2, by omega, ?_⟩⟩
          by_cases h3 : k = 0 ∧ ok x = false
          · rw [if_pos ⟨h3.1, .inr h3.2⟩, if_pos ⟨by omega, h3.2⟩]; congr 1; omega
          · rw [if_neg (by rintro ⟨q1, q2 | q2⟩; omega; exact h3 ⟨q1, q2⟩), if_pos h2, if_neg (by rintro ⟨q1, q2⟩; exact h3 ⟨by omega, q2⟩)]
        · rw [if_neg h2] at h
          have h4 : ¬ (k = 0 ∧ (128 ≤ x ∨ ok x = false)) := fun q => h1 ⟨q.1, by omega⟩
          obtain ⟨a, b⟩ := ih (i + 1) t n e h
          rw [if_neg h4, if_neg h2]
          refine ⟨a, fun he => ?_⟩
          obtain ⟨j, y, q1, q2, q3, q4, q5⟩ := b he
          refine ⟨j + 1, y, ?_, ?_, q3, ?_, ?_⟩
          · omega
          · simpa using q2
          · omega
          · rw [q5]
            simp

theorem val_drop {l : List Int} {j : Nat} {x : Int} (h : l[j]? = some x) : val (l.drop j) = x % 128 + 128 * val (l.drop (j + 1)) := by
  obtain ⟨hj, rfl⟩ := List.getElem?_eq_some_iff.1 h
  rw [List.drop_eq_getElem_cons hj, val]

set_option maxHeartbeats 2000000 in
theorem refU (w : World) (B : Nat) (A : Option Addr) (c : Nat) (l : List Int) (b : Int) (b0 : 1 ≤ b) (b1 : b ≤ 64) (hB : B ≤ w.heap.size) (hsrc : Src w B A c l) (hl : ∀ x ∈ l, 0 ≤ x ∧ x < 256) (hlen : l.length ≤ 1000000000) :
    Calls Try.prog 17 #[.slice A l.length c, .int .i64 b] w (uPost w b l) := by
  have hmm := most_le b0 b1
  rcases hn : endT b l with ⟨n, e⟩
  have hee := ends_of (fun x => okF 29 x (b - 7 * ((most b : Int) - 1))) (most b) 0 l n e hn
  change (e ≠ 0 → endF 29 b l = (n, e)) ∧ _ at hee
  have HN := hid hn
  have HS := hid hsrc
  have HLL := hid hl
  have HEE := hid hee
  clear hsrc hl hn hee
  by_cases he : e = 0
  · subst he
    obtain ⟨j, x, hnj, hx, hx2, hjm, hF⟩ := HEE.out.2 rfl
    obtain ⟨hx0, hx1⟩ := HLL.out x (List.mem_of_getElem? hx)
    obtain ⟨hjl, _⟩ := List.getElem?_eq_some_iff.1 hx
    obtain ⟨ad, rfl, hbl, hcA⟩ : ∃ ad, A = some ad ∧ ad.block < B ∧ ∀ i u, (bv l)[i]? = some u → w.cell? (ad.add i) = some u := by
      rcases HS.out with ⟨_, _, h⟩ | h
      · subst h; simp at hjl
      · obtain ⟨ad, e1, e2, e3⟩ := h
        exact ⟨ad, e1, e2 (by rintro rfl; simp at hjl), e3⟩
    have HK : ∀ w' : World, Below w.heap.size w w' → ∀ i y, l[i]? = some y → w'.cell? (ad.add i) = some (.int .u8 y) := by
      intro w' hb i y hy
      exact (hb.cell (p := ad.add i) (by unfold Addr.add; split <;> (first | omega | (simp; omega)))).trans (hcA i _ (by simp [bv, hy]))
    replace HK := hid HK
    obtain ⟨m, hm⟩ : ∃ m, most b = m := ⟨_, rfl⟩
    rw [hm] at hmm hjm hF
    obtain ⟨m0, m1, m2⟩ := hmm
    have HX := hid hx
    have HF := hid hF
    have HMB := hid hm
    have HM0 := hid m0
    clear hcA hx hF hm m0
    simp at hnj
    subst hnj
    go_enter Try.func17, Try.ntmps17
    go_upto_region 4 with (first | (go_at_call 30; refine (refEnd _ B (some ad) c l b b0 b1 hB HS.out HLL.out hlen).mono ?_; rintro e w' ⟨n1, k1, rfl, hee, hb1⟩; (obtain ⟨rfl, rfl⟩ := Prod.mk.inj (HN.out.symm.trans hee)); clear hee; have HCK := hid (HK.out _ hb1); (first | have hq1 := hz1 | have hq1 := True.intro); (first | have hq0 := hz0 | have hq0 := True.intro); obtain ⟨hcc, hff⟩ := bcell hb1; have hz1 := hb1.size; (try simp at hz1); (try have hy1 := Nat.lt_of_lt_of_le hq1 hz1); (try have hy0 := Nat.lt_of_lt_of_le hq0 hz1); (try replace hz1 := Nat.lt_of_succ_le hz1); (try have hz0 := Nat.lt_of_succ_lt hz1)) | go_in)
    have hcx := HCK.out j x HX.out
    have e7 : ((j : Int) + 1 = m) → b - 7 * ((m : Int) - 1) = b - 7 * (j : Int) := fun h => by omega
    by_cases hbad : j + 1 = m ∧ okF 29 x (b - 7 * ((m : Int) - 1)) = false
    · obtain ⟨hjm2, hq⟩ := hbad
      have t1 : ((j : Int) + 1 == (m : Int)) = true := by simp; omega
      have c0 : 1 ≤ b - 7 * (j : Int) := by have := HM0.out; omega
      have c1 : b - 7 * (j : Int) ≤ 7 := by have := HM0.out; omega
      have HR := hid (show endF 29 b l = ((j : Int), 2) by unfold endF; rw [HMB.out, HF.out, if_pos ⟨hjm2, hq⟩]; congr 1; omega)
      rw [e7 (by omega)] at hq
      have q1 : (x / 2 ^ (b - 7 * (j : Int)).toNat != 0) = true := by simpa [okF] using hq
      clear e7 hq
      go_wp2_with (first | (go_at_call 31; refine (refMost _ b b0 b1).mono ?_; rintro e w' ⟨rfl, hb2⟩; (try rw [HMB.out]); obtain ⟨hcc2, hff2⟩ := bcell hb2; have hcx2 := (hb2.cell (p := ad.add j) (by unfold Addr.add; split <;> (first | omega | (simp; omega)))).trans hcx) | go_in)
      refine bodyPost_ret (v := .tuple #[.int .u64 0, .int .i64 j, .int .i64 2]) ?_ rfl ⟨_, _, _, rfl, HR.out, ?_, ?_, ?_⟩
      · simp [results, Try.results17, go_sem]
      · intro h; simp at h
      · intro _; rfl
      · exact below_call (below_call (Below.refl _ _) hb1 (Nat.le_refl _)) hb2 (by assumption)
    · have HR := hid (show endF 29 b l = ((j : Int) + 1, 0) by unfold endF; rw [HMB.out, HF.out, if_neg hbad])
      by_cases hjm2 : j + 1 = m
      · have t1 : ((j : Int) + 1 == (m : Int)) = true := by simp; omega
        have c0 : 1 ≤ b - 7 * (j : Int) := by have := HM0.out; omega
        have c1 : b - 7 * (j : Int) ≤ 7 := by have := HM0.out; omega
        have q1 : (x / 2 ^ (b - 7 * (j : Int)).toNat != 0) = false := by
          have : ¬ okF 29 x (b - 7 * ((m : Int) - 1)) = false := fun q => hbad ⟨hjm2, q⟩
          rw [e7 (by omega)] at this
          simpa [okF] using this
        clear e7 hbad
        go_wp2_with (first | (go_at_call 31; refine (refMost _ b b0 b1).mono ?_; rintro e w' ⟨rfl, hb2⟩; (try rw [HMB.out]); obtain ⟨hcc2, hff2⟩ := bcell hb2; have hcx2 := (hb2.cell (p := ad.add j) (by unfold Addr.add; split <;> (first | omega | (simp; omega)))).trans hcx) | go_in)
        have HB3 := hid (below_call (below_call (Below.refl _ _) hb1 (Nat.le_refl _)) hb2 (by assumption))
        clear hb1 hb2 hcc hff hcc2 hff2 hcx hcx2 t1 q1 c0 c1 HCK
        go_loopw [10, 11] (fun v10 v11 wr => ∃ (q : Nat) (v : Int), q ≤ j + 1 ∧ v11 = .int .i64 ((q : Int) - 1) ∧ v10 = .int .u64 v ∧ 0 ≤ v ∧ v < 18446744073709551616 ∧ Hid (v = val ((l.take (j + 1)).drop q) % 18446744073709551616) ∧ Hid (Below w.heap.size w wr)) (fun _ v11 _ => (intOf v11 + 1).toNat)
        case atStart => exact ⟨j + 1, 0, by omega, by go_num, rfl, by omega, by omega, hid (by rw [List.drop_eq_nil_of_le (by simp; omega)]; rfl), HB3⟩
        case round =>
          obtain ⟨q, v, hq, rfl, rfl, v0, v1, HV, HB⟩ := hrel
          rcases q with _ | q
          · go_wp2
            refine bodyPost_ret (v := .tuple #[.int .u64 v, .int .i64 (j + 1), .int .i64 0]) ?_ rfl ⟨_, _, _, rfl, HR.out, ?_, ?_, HB.out⟩
            · simp [results, Try.results17, go_sem]
            · intro _; exact ⟨by rw [HV.out]; simp, by omega⟩
            · intro h; exact absurd rfl h
          · have eq1 : ((q + 1 : Nat) : Int) - 1 = q := by omega
            rw [eq1]
            have hql : q < l.length := by omega
            obtain ⟨y, hy⟩ : ∃ y, l[q]? = some y := ⟨l[q], List.getElem?_eq_getElem hql⟩
            obtain ⟨y0, y1⟩ := HLL.out y (List.mem_of_getElem? hy)
            have hcy := HK.out _ HB.out q y hy
            have HY := hid hy
            clear hy eq1
            go_wp2
            have hd := val_drop (l := l.take (j + 1)) (j := q) (x := y) (by rw [List.getElem?_take_of_lt (by omega)]; exact HY.out)
            refine ⟨⟨q, _, by omega, rfl, rfl, ?_, ?_, ?_, HB⟩, by first | (simp [intOf]; done) | (simp [intOf]; omega)⟩
            · rw [wu, wu]; omega
            · rw [wu, wu]; omega
            · refine hid ?_; rw [hd, HV.out, wu, wu]; omega
      · have t1 : ((j : Int) + 1 == (m : Int)) = false := by simp; omega
        clear e7 hbad
        go_wp2_with (first | (go_at_call 31; refine (refMost _ b b0 b1).mono ?_; rintro e w' ⟨rfl, hb2⟩; (try rw [HMB.out]); obtain ⟨hcc2, hff2⟩ := bcell hb2; have hcx2 := (hb2.cell (p := ad.add j) (by unfold Addr.add; split <;> (first | omega | (simp; omega)))).trans hcx) | go_in)
        have HB3 := hid (below_call (below_call (Below.refl _ _) hb1 (Nat.le_refl _)) hb2 (by assumption))
        clear hb1 hb2 hcc hff hcc2 hff2 hcx hcx2 t1 HCK
        go_loopw [10, 11] (fun v10 v11 wr => ∃ (q : Nat) (v : Int), q ≤ j + 1 ∧ v11 = .int .i64 ((q : Int) - 1) ∧ v10 = .int .u64 v ∧ 0 ≤ v ∧ v < 18446744073709551616 ∧ Hid (v = val ((l.take (j + 1)).drop q) % 18446744073709551616) ∧ Hid (Below w.heap.size w wr)) (fun _ v11 _ => (intOf v11 + 1).toNat)
        case atStart => exact ⟨j + 1, 0, by omega, by go_num, rfl, by omega, by omega, hid (by rw [List.drop_eq_nil_of_le (by simp; omega)]; rfl), HB3⟩
        case round =>
          obtain ⟨q, v, hq, rfl, rfl, v0, v1, HV, HB⟩ := hrel
          rcases q with _ | q
          · go_wp2
            refine bodyPost_ret (v := .tuple #[.int .u64 v, .int .i64 (j + 1), .int .i64 0]) ?_ rfl ⟨_, _, _, rfl, HR.out, ?_, ?_, HB.out⟩
            · simp [results, Try.results17, go_sem]
            · intro _; exact ⟨by rw [HV.out]; simp, by omega⟩
            · intro h; exact absurd rfl h
          · have eq1 : ((q + 1 : Nat) : Int) - 1 = q := by omega
            rw [eq1]
            have hql : q < l.length := by omega
            obtain ⟨y, hy⟩ : ∃ y, l[q]? = some y := ⟨l[q], List.getElem?_eq_getElem hql⟩
            obtain ⟨y0, y1⟩ := HLL.out y (List.mem_of_getElem? hy)
            have hcy := HK.out _ HB.out q y hy
            have HY := hid hy
            clear hy eq1
            go_wp2
            have hd := val_drop (l := l.take (j + 1)) (j := q) (x := y) (by rw [List.getElem?_take_of_lt (by omega)]; exact HY.out)
            refine ⟨⟨q, _, by omega, rfl, rfl, ?_, ?_, ?_, HB⟩, by first | (simp [intOf]; done) | (simp [intOf]; omega)⟩
            · rw [wu, wu]; omega
            · rw [wu, wu]; omega
            · refine hid ?_; rw [hd, HV.out, wu, wu]; omega
  · go_enter Try.func17, Try.ntmps17
    go_wp2_with (first | (go_at_call 30; refine (refEnd _ B A c l b b0 b1 hB HS.out HLL.out hlen).mono ?_; rintro e w' ⟨n1, k1, rfl, hee, hb1⟩; (obtain ⟨rfl, rfl⟩ := Prod.mk.inj (HN.out.symm.trans hee)); clear hee; (first | have hq1 := hz1 | have hq1 := True.intro); (first | have hq0 := hz0 | have hq0 := True.intro); obtain ⟨hcc, hff⟩ := bcell hb1; have hz1 := hb1.size; (try simp at hz1); (try have hy1 := Nat.lt_of_lt_of_le hq1 hz1); (try have hy0 := Nat.lt_of_lt_of_le hq0 hz1); (try replace hz1 := Nat.lt_of_succ_le hz1); (try have hz0 := Nat.lt_of_succ_lt hz1)) | go_in)
    refine bodyPost_ret (v := .tuple #[.int .u64 0, .int .i64 n, .int .i64 e]) ?_ rfl ⟨_, _, _, rfl, ?_, ?_, ?_, ?_⟩
    · simp [results, Try.results17, go_sem]
    · exact HEE.out.1 he
    · intro h; exact absurd h he
    · intro _; rfl
    · exact (by repeat (first | exact Below.refl _ _ | assumption | refine Below.alloc ?_ (by first | exact Nat.le_refl _ | (simp; done) | (simp; omega) | omega) _ | refine Below.drew ?_ | refine Below.setCell ?_ (by first | exact Nat.le_refl _ | (simp; done) | (simp; omega) | omega) _ | refine below_call ?_ (by assumption) (by first | exact Nat.le_refl _ | (simp; done) | (simp; omega) | omega)))

end Go.Proofs.Ytlpocahflolmpaa
