/- The statement UtfNeeds: its walk. -/
import Derived.Test.YtlpocahflolmpaaU6
namespace Go.Proofs.Ytlpocahflolmpaa
set_option linter.unusedVariables false
set_option linter.unusedSimpArgs false
open Go.RowKit

theorem nd1 : need (ns ⟨#[226]⟩) = (2, true) := by decide +kernel
theorem nd2 : need (ns ⟨#[237, 160]⟩) = (0, false) := by decide +kernel
theorem nd3 : need (ns ⟨#[97, 226, 130, 172]⟩) = (0, true) := by decide +kernel
theorem need_ex1 (w : World) : Calls Try.prog 21 #[.string ⟨#[226]⟩] w (fun e w' => e = .returned (.tuple #[.int .i64 2, .bool true]) ∧ w = w') := by
  have h := need_walk ⟨#[226]⟩ w (by decide)
  rwa [nd1] at h
theorem need_ex2 (w : World) : Calls Try.prog 21 #[.string ⟨#[237, 160]⟩] w (fun e w' => e = .returned (.tuple #[.int .i64 0, .bool false]) ∧ w = w') := by
  have h := need_walk ⟨#[237, 160]⟩ w (by decide)
  rwa [nd2] at h
theorem valid_ex (w : World) : Calls Try.prog 23 #[.string ⟨#[97, 226, 130, 172]⟩] w (fun e w' => e = .returned (.bool true) ∧ w = w') := by
  have h := valid_walk ⟨#[97, 226, 130, 172]⟩ w (by decide)
  rwa [nd3] at h

set_option maxHeartbeats 2000000 in
theorem utf_awake (w : World) : Calls Try.prog 24 #[] w (fun e w' => e = .returned (.bool true) ∧ w = w') := by
  go_enter Try.func24, Try.ntmps24
  go_wp2_with (first
    | (go_at_call 21; ((with_reducible refine (need_ex1 _).mono ?_); rintro e w' ⟨rfl, rfl⟩))
    | (go_at_call 21; ((with_reducible refine (need_ex2 _).mono ?_); rintro e w' ⟨rfl, rfl⟩))
    | (go_at_call 23; ((with_reducible refine (valid_ex _).mono ?_); rintro e w' ⟨rfl, rfl⟩)))
  go_ret
  exact ⟨rfl, rfl⟩

set_option maxHeartbeats 2000000 in
theorem needs_walk (s : ByteArray) (w : World) (hm : s.size ≤ 9223372036854775807) :
    Calls Try.prog 7 #[.string s] w (fun e w' => e = .returned (.bool true) ∧ Below w.heap.size w w') := by
  by_cases h6 : s.size ≤ 600
  · have hs : s.size ≤ 140737488351232 := by omega
    have HN := hid (need_walk s)
    have HR := hid (refNeed_walk s)
    have HV := hid (valid_walk s)
    rcases hR : need (ns s) with ⟨k, is⟩
    rw [hR] at HN HR HV
    clear hR
    cases is with
    | true =>
      by_cases hk : k = 0
      · subst hk
        go_enter Try.func7, Try.ntmps7
        go_wp2_with (first
          | (go_at_call 21; ((with_reducible refine (HN.out _ hs).mono ?_); rintro e w' ⟨rfl, rfl⟩))
          | (go_at_call 22; ((with_reducible refine (HR.out _ (by omega)).mono ?_); rintro e w' ⟨rfl, hb1⟩))
          | (go_at_call 23; ((with_reducible refine (HV.out _ hs).mono ?_); rintro e w' ⟨rfl, rfl⟩))
          | (go_at_call 24; ((with_reducible refine (utf_awake _).mono ?_); rintro e w' ⟨rfl, rfl⟩)))
        go_ret
        exact ⟨rfl, hb1⟩
      · have q1 : (k == 0) = false := by simpa using hk
        go_enter Try.func7, Try.ntmps7
        go_wp2_with (first
          | (go_at_call 21; ((with_reducible refine (HN.out _ hs).mono ?_); rintro e w' ⟨rfl, rfl⟩))
          | (go_at_call 22; ((with_reducible refine (HR.out _ (by omega)).mono ?_); rintro e w' ⟨rfl, hb1⟩))
          | (go_at_call 23; ((with_reducible refine (HV.out _ hs).mono ?_); rintro e w' ⟨rfl, rfl⟩))
          | (go_at_call 24; ((with_reducible refine (utf_awake _).mono ?_); rintro e w' ⟨rfl, rfl⟩)))
        go_ret
        exact ⟨rfl, hb1⟩
    | false =>
      go_enter Try.func7, Try.ntmps7
      go_wp2_with (first
        | (go_at_call 21; ((with_reducible refine (HN.out _ hs).mono ?_); rintro e w' ⟨rfl, rfl⟩))
        | (go_at_call 22; ((with_reducible refine (HR.out _ (by omega)).mono ?_); rintro e w' ⟨rfl, hb1⟩))
        | (go_at_call 23; ((with_reducible refine (HV.out _ hs).mono ?_); rintro e w' ⟨rfl, rfl⟩))
        | (go_at_call 24; ((with_reducible refine (utf_awake _).mono ?_); rintro e w' ⟨rfl, rfl⟩)))
      go_ret
      exact ⟨rfl, hb1⟩
  · go_enter Try.func7, Try.ntmps7
    go_wp2
    go_ret
    exact ⟨rfl, (by repeat (first | exact Below.refl _ _ | assumption | refine Below.alloc ?_ (by first | exact Nat.le_refl _ | (simp; done) | (simp; omega) | omega) _ | refine Below.drew ?_ | refine Below.setCell ?_ (by first | exact Nat.le_refl _ | (simp; done) | (simp; omega) | omega) _ | refine below_call ?_ (by assumption) (by first | exact Nat.le_refl _ | (simp; done) | (simp; omega) | omega)))⟩

end Go.Proofs.Ytlpocahflolmpaa
