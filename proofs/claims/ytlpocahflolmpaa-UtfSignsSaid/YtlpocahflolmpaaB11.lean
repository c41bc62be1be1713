/- The reference's S: the number with a sign, by definition. -/
import Derived.Test.YtlpocahflolmpaaB10
namespace Go.Proofs.Ytlpocahflolmpaa
set_option linter.unusedVariables false
set_option linter.unusedSimpArgs false
open Go.RowKit

def rsPost (w : World) (b : Int) (l : List Int) (e : Ending) (w' : World) : Prop :=
  ∃ v n k, e = .returned (.tuple #[.int .i64 v, .int .i64 n, .int .i64 k]) ∧ endF 32 b l = (n, k) ∧ (k = 0 → v = sv (l.take n.toNat) ∧ 1 ≤ n) ∧ (k ≠ 0 → v = 0) ∧ Below w.heap.size w w'

set_option maxHeartbeats 4000000 in
theorem refS (w : World) (B : Nat) (A : Option Addr) (c : Nat) (l : List Int) (b : Int) (b0 : 1 ≤ b) (b1 : b ≤ 64) (hB : B ≤ w.heap.size) (hsrc : Src w B A c l) (hl : ∀ x ∈ l, 0 ≤ x ∧ x < 256) (hlen : l.length ≤ 1000000000) :
    Calls Try.prog 20 #[.slice A l.length c, .int .i64 b] w (rsPost w b l) := by
  have hmm := most_le b0 b1
  rcases hn : endT b l with ⟨n, e⟩
  have hee := ends_of (fun x => okF 32 x (b - 7 * ((most b : Int) - 1))) (most b) 0 l n e hn
  change (e ≠ 0 → endF 32 b l = (n, e)) ∧ _ at hee
  have HN := hid hn
  have HS := hid hsrc
  have HLL := hid hl
  have HEE := hid hee
  clear hsrc hl hn hee
  by_cases he : e = 0
  · subst he
    obtain ⟨j, x, hnj, hx, hx2, hjm, hF⟩ := HEE.out.2 rfl
    obtain ⟨hx0, hx1⟩ := HLL.out x (List.mem_of_getElem? hx)
    obtain ⟨hjl, _⟩ := List.getElem?_eq_some_iff.1 hx
    obtain ⟨ad, rfl, hbl, hcA⟩ : ∃ ad, A = some ad ∧ ad.block < B ∧ ∀ i u, (bv l)[i]? = some u → w.cell? (ad.add i) = some u := by
      rcases HS.out with ⟨_, _, h⟩ | h
      · subst h; simp at hjl
      · obtain ⟨ad, e1, e2, e3⟩ := h
        exact ⟨ad, e1, e2 (by rintro rfl; simp at hjl), e3⟩
    have HK : ∀ w' : World, Below w.heap.size w w' → ∀ i y, l[i]? = some y → w'.cell? (ad.add i) = some (.int .u8 y) := by
      intro w' hb i y hy
      exact (hb.cell (p := ad.add i) (by unfold Addr.add; split <;> (first | omega | (simp; omega)))).trans (hcA i _ (by simp [bv, hy]))
    replace HK := hid HK
    obtain ⟨m, hm⟩ : ∃ m, most b = m := ⟨_, rfl⟩
    rw [hm] at hmm hjm hF
    obtain ⟨m0, m1, m2⟩ := hmm
    have HX := hid hx
    have HF := hid hF
    have HMB := hid hm
    have HM0 := hid m0
    clear hcA hx hF hm m0
    simp at hnj
    subst hnj
    go_enter Try.func20, Try.ntmps20
    go_upto_region 4 with (first | (go_at_call 30; refine (refEnd _ B (some ad) c l b b0 b1 hB HS.out HLL.out hlen).mono ?_; rintro e w' ⟨n1, k1, rfl, hee, hb1⟩; (obtain ⟨rfl, rfl⟩ := Prod.mk.inj (HN.out.symm.trans hee)); clear hee; have HCK := hid (HK.out _ hb1); (first | have hq1 := hz1 | have hq1 := True.intro); (first | have hq0 := hz0 | have hq0 := True.intro); obtain ⟨hcc, hff⟩ := bcell hb1; have hz1 := hb1.size; (try simp at hz1); (try have hy1 := Nat.lt_of_lt_of_le hq1 hz1); (try have hy0 := Nat.lt_of_lt_of_le hq0 hz1); (try replace hz1 := Nat.lt_of_succ_le hz1); (try have hz0 := Nat.lt_of_succ_lt hz1)) | go_in)
    have hcx := HCK.out j x HX.out
    have e7 : ((j : Int) + 1 = m) → b - 7 * ((m : Int) - 1) = b - 7 * (j : Int) := fun h => by omega
    by_cases hjm2 : j + 1 = m
    · have t1 : ((j : Int) + 1 == (m : Int)) = true := by simp; omega
      have c0 : 1 ≤ b - 7 * (j : Int) := by have := HM0.out; omega
      have c1 : b - 7 * (j : Int) ≤ 7 := by have := HM0.out; omega
      have HOK := hid (ok32 x (b - 7 * (j : Int)) hx0 hx2 c0 c1)
      rw [show (b - 7 * (j : Int) - 1).toNat = (b - 7 * (j : Int)).toNat - 1 by omega] at HOK
      have hs0 : 0 ≤ x / 2 ^ ((b - 7 * (j : Int)).toNat - 1) := Int.ediv_nonneg hx0 (Int.le_of_lt (two_pos _))
      have HE7 := hid (e7 (by omega))
      clear e7
      go_wp2_with (first | (go_at_call 31; refine (refMost _ b b0 b1).mono ?_; rintro e w' ⟨rfl, hb2⟩; (try rw [HMB.out]); obtain ⟨hcc2, hff2⟩ := bcell hb2; have hcx2 := (hb2.cell (p := ad.add j) (by unfold Addr.add; split <;> (first | omega | (simp; omega)))).trans hcx) | go_in)
      go_loopw [12] (fun v12 wr => ∃ (i : Int), b - 7 * (j : Int) ≤ i ∧ i ≤ 7 ∧ v12 = .int .i64 i ∧ Hid (∀ k : Int, b - 7 * (j : Int) ≤ k → k < i → x / 2 ^ k.toNat % 2 = x / 2 ^ ((b - 7 * (j : Int)).toNat - 1) % 2) ∧ wr = w') (fun v12 _ => (7 - intOf v12).toNat)
      case atStart => exact ⟨_, Int.le_refl _, by omega, rfl, hid (fun k h1 h2 => by omega), rfl⟩
      case round =>
        obtain ⟨i, i0, i1, rfl, HI, rfl⟩ := hrel
        by_cases hi7 : i < 7
        · have hp0 : 0 ≤ x / 2 ^ i.toNat := Int.ediv_nonneg hx0 (Int.le_of_lt (two_pos _))
          rcases hb : (x / 2 ^ i.toNat % 2 != x / 2 ^ ((b - 7 * (j : Int)).toNat - 1) % 2) with _ | _
          · have HEQ := hid (show x / 2 ^ i.toNat % 2 = x / 2 ^ ((b - 7 * (j : Int)).toNat - 1) % 2 by simpa using hb)
            go_wp2
            refine ⟨⟨i + 1, by omega, by omega, rfl, hid (fun k h1 h2 => ?_), trivial⟩, by simp [intOf]; omega⟩
            by_cases hk : k = i
            · rw [hk]; exact HEQ.out
            · exact HI.out k h1 (by omega)
          · have HEQ := hid (show ¬ x / 2 ^ i.toNat % 2 = x / 2 ^ ((b - 7 * (j : Int)).toNat - 1) % 2 by simpa using hb)
            have hof : okF 32 x (b - 7 * (j : Int)) = false := by
              rcases hq : okF 32 x (b - 7 * (j : Int)) with _ | _
              · rfl
              · exact absurd (HOK.out.1 hq i i0 hi7) HEQ.out
            have ejj : (j : Int) + 1 - 1 = j := by omega
            have HR := hid (show endF 32 b l = ((j : Int), 2) by unfold endF; rw [HMB.out, HF.out, if_pos ⟨hjm2, by rw [HE7.out]; exact hof⟩, ejj])
            clear hof ejj
            go_wp2
            refine bodyPost_ret (v := .tuple #[.int .i64 0, .int .i64 j, .int .i64 2]) ?_ rfl ⟨_, _, _, rfl, HR.out, ?_, ?_, ?_⟩
            · simp [results, Try.results20, go_sem]
            · intro h; simp at h
            · intro _; rfl
            · exact below_call (below_call (Below.refl _ _) hb1 (Nat.le_refl _)) hb2 (by assumption)
        · have HOKT := hid (show okF 32 x (b - 7 * (j : Int)) = true from HOK.out.2 (fun k h1 h2 => HI.out k h1 (by omega)))
          have HR := hid (show endF 32 b l = ((j : Int) + 1, 0) by unfold endF; rw [HMB.out, HF.out, if_neg (by rw [HE7.out, HOKT.out]; simp)])
          have HTEN := hid (show j ≤ 8 ∨ (j ≤ 9 ∧ (x = 0 ∨ x = 127)) by
            by_cases h8 : j ≤ 8
            · exact .inl h8
            · refine .inr ⟨by omega, ?_⟩
              have hh := HOKT.out
              have e1 : b - 7 * (j : Int) = 1 := by omega
              rw [e1] at hh
              simpa [okF] using hh)
          have HB3 := hid (below_call (below_call (Below.refl _ _) hb1 (Nat.le_refl _)) hb2 (by assumption))
          have HBD := hid (show ∀ q : Nat, 1 ≤ q → q ≤ j → -9223372036854775808 ≤ sv ((l.take (j + 1)).drop q) * 128 ∧ sv ((l.take (j + 1)).drop q) * 128 ≤ 9223372036854775680 by
            intro q q1 q2
            rw [split_last HX.out, List.drop_append_of_le_length (by simp; omega)]
            exact sv_bd _ x hx0 hx2 (by simp only [List.length_drop, List.length_take]; have := HTEN.out; omega))
          clear hb1 hb2 hcc hff hcc2 hff2 hcx hcx2 HCK
          by_cases h64 : 64 ≤ x
          all_goals
            have HSD := hid (show sv ((l.take (j + 1)).drop j) = sd x by rw [split_last HX.out, List.drop_append_of_le_length (by simp; omega), List.drop_eq_nil_of_le (by simp; omega)]; rfl)
            have HSX : Hid (sd x = if 64 ≤ x then x - 128 else x) := hid rfl
            first | rw [if_pos h64] at HSX | rw [if_neg h64] at HSX
            go_wp2
            go_loopw [13, 14] (fun v13 v14 wr => ∃ (q : Nat) (v : Int), q ≤ j ∧ v14 = .int .i64 ((q : Int) - 1) ∧ v13 = .int .i64 v ∧ Hid (v = sv ((l.take (j + 1)).drop q)) ∧ Hid (Below w.heap.size w wr)) (fun _ v14 _ => (intOf v14 + 1).toNat)
            case atStart => exact ⟨j, _, by omega, by go_num, rfl, hid (by rw [HSD.out, HSX.out]), HB3⟩
            case round =>
              obtain ⟨q, v, hq, rfl, rfl, HV, HB⟩ := hrel
              rcases q with _ | q
              · go_wp2
                refine bodyPost_ret (v := .tuple #[.int .i64 v, .int .i64 (j + 1), .int .i64 0]) ?_ rfl ⟨_, _, _, rfl, HR.out, ?_, ?_, HB.out⟩
                · simp [results, Try.results20, go_sem]
                · intro _; exact ⟨by rw [HV.out]; simp, by omega⟩
                · intro h; exact absurd rfl h
              · have eq1 : ((q + 1 : Nat) : Int) - 1 = q := by omega
                rw [eq1]
                have hql : q < l.length := by omega
                obtain ⟨y, hy⟩ : ∃ y, l[q]? = some y := ⟨l[q], List.getElem?_eq_getElem hql⟩
                obtain ⟨y0, y1⟩ := HLL.out y (List.mem_of_getElem? hy)
                have hcy := HK.out _ HB.out q y hy
                have HY := hid hy
                obtain ⟨v0, v1⟩ := HBD.out (q + 1) (by omega) hq
                rw [← HV.out] at v0 v1
                clear hy eq1
                go_wp2
                have hd := sv_drop (l := l.take (j + 1)) (j := q) (x := y) (by rw [List.getElem?_take_of_lt (by omega)]; exact HY.out) (by simp; omega)
                refine ⟨⟨q, _, by omega, rfl, rfl, ?_, HB⟩, by first | (simp [intOf]; done) | (simp [intOf]; omega)⟩
                refine hid ?_; rw [hd, HV.out]; omega
    · have t1 : ((j : Int) + 1 == (m : Int)) = false := by simp; omega
      have HR := hid (show endF 32 b l = ((j : Int) + 1, 0) by unfold endF; rw [HMB.out, HF.out, if_neg (fun h => hjm2 h.1)])
      have HTEN := hid (show j ≤ 8 ∨ (j ≤ 9 ∧ (x = 0 ∨ x = 127)) from .inl (by omega))
      clear e7
      go_upto_region 13 with (first | (go_at_call 31; refine (refMost _ b b0 b1).mono ?_; rintro e w' ⟨rfl, hb2⟩; (try rw [HMB.out]); obtain ⟨hcc2, hff2⟩ := bcell hb2; have hcx2 := (hb2.cell (p := ad.add j) (by unfold Addr.add; split <;> (first | omega | (simp; omega)))).trans hcx) | go_in)
      have HB3 := hid (below_call (below_call (Below.refl _ _) hb1 (Nat.le_refl _)) hb2 (by assumption))
      have HBD := hid (show ∀ q : Nat, 1 ≤ q → q ≤ j → -9223372036854775808 ≤ sv ((l.take (j + 1)).drop q) * 128 ∧ sv ((l.take (j + 1)).drop q) * 128 ≤ 9223372036854775680 by
        intro q q1 q2
        rw [split_last HX.out, List.drop_append_of_le_length (by simp; omega)]
        exact sv_bd _ x hx0 hx2 (by simp only [List.length_drop, List.length_take]; have := HTEN.out; omega))
      clear hb1 hb2 hcc hff hcc2 hff2 hcx hcx2 HCK
      by_cases h64 : 64 ≤ x
      all_goals
        have HSD := hid (show sv ((l.take (j + 1)).drop j) = sd x by rw [split_last HX.out, List.drop_append_of_le_length (by simp; omega), List.drop_eq_nil_of_le (by simp; omega)]; rfl)
        have HSX : Hid (sd x = if 64 ≤ x then x - 128 else x) := hid rfl
        first | rw [if_pos h64] at HSX | rw [if_neg h64] at HSX
        go_wp2
        go_loopw [13, 14] (fun v13 v14 wr => ∃ (q : Nat) (v : Int), q ≤ j ∧ v14 = .int .i64 ((q : Int) - 1) ∧ v13 = .int .i64 v ∧ Hid (v = sv ((l.take (j + 1)).drop q)) ∧ Hid (Below w.heap.size w wr)) (fun _ v14 _ => (intOf v14 + 1).toNat)
        case atStart => exact ⟨j, _, by omega, by go_num, rfl, hid (by rw [HSD.out, HSX.out]), HB3⟩
        case round =>
          obtain ⟨q, v, hq, rfl, rfl, HV, HB⟩ := hrel
          rcases q with _ | q
          · go_wp2
            refine bodyPost_ret (v := .tuple #[.int .i64 v, .int .i64 (j + 1), .int .i64 0]) ?_ rfl ⟨_, _, _, rfl, HR.out, ?_, ?_, HB.out⟩
            · simp [results, Try.results20, go_sem]
            · intro _; exact ⟨by rw [HV.out]; simp, by omega⟩
            · intro h; exact absurd rfl h
          · have eq1 : ((q + 1 : Nat) : Int) - 1 = q := by omega
            rw [eq1]
            have hql : q < l.length := by omega
            obtain ⟨y, hy⟩ : ∃ y, l[q]? = some y := ⟨l[q], List.getElem?_eq_getElem hql⟩
            obtain ⟨y0, y1⟩ := HLL.out y (List.mem_of_getElem? hy)
            have hcy := HK.out _ HB.out q y hy
            have HY := hid hy
            obtain ⟨v0, v1⟩ := HBD.out (q + 1) (by omega) hq
            rw [← HV.out] at v0 v1
            clear hy eq1
            go_wp2
            have hd := sv_drop (l := l.take (j + 1)) (j := q) (x := y) (by rw [List.getElem?_take_of_lt (by omega)]; exact HY.out) (by simp; omega)
            refine ⟨⟨q, _, by omega, rfl, rfl, ?_, HB⟩, by first | (simp [intOf]; done) | (simp [intOf]; omega)⟩
            refine hid ?_; rw [hd, HV.out]; omega
  · go_enter Try.func20, Try.ntmps20
    go_wp2_with (first | (go_at_call 30; refine (refEnd _ B A c l b b0 b1 hB HS.out HLL.out hlen).mono ?_; rintro e w' ⟨n1, k1, rfl, hee, hb1⟩; (obtain ⟨rfl, rfl⟩ := Prod.mk.inj (HN.out.symm.trans hee)); clear hee; (first | have hq1 := hz1 | have hq1 := True.intro); (first | have hq0 := hz0 | have hq0 := True.intro); obtain ⟨hcc, hff⟩ := bcell hb1; have hz1 := hb1.size; (try simp at hz1); (try have hy1 := Nat.lt_of_lt_of_le hq1 hz1); (try have hy0 := Nat.lt_of_lt_of_le hq0 hz1); (try replace hz1 := Nat.lt_of_succ_le hz1); (try have hz0 := Nat.lt_of_succ_lt hz1)) | go_in)
    refine bodyPost_ret (v := .tuple #[.int .i64 0, .int .i64 n, .int .i64 e]) ?_ rfl ⟨_, _, _, rfl, ?_, ?_, ?_, ?_⟩
    · simp [results, Try.results20, go_sem]
    · exact HEE.out.1 he
    · intro h; exact absurd h he
    · intro _; rfl
    · exact (by repeat (first | exact Below.refl _ _ | assumption | refine Below.alloc ?_ (by first | exact Nat.le_refl _ | (simp; done) | (simp; omega) | omega) _ | refine Below.drew ?_ | refine Below.setCell ?_ (by first | exact Nat.le_refl _ | (simp; done) | (simp; omega) | omega) _ | refine below_call ?_ (by assumption) (by first | exact Nat.le_refl _ | (simp; done) | (simp; omega) | omega)))

end Go.Proofs.Ytlpocahflolmpaa
