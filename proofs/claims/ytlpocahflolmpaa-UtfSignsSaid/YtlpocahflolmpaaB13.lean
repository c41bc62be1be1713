/- The chapter's examples hold. -/
import Derived.Test.YtlpocahflolmpaaB12
namespace Go.Proofs.Ytlpocahflolmpaa
set_option linter.unusedVariables false
set_option linter.unusedSimpArgs false
open Go.RowKit

theorem ex1 : endF 32 32 [255, 255, 255, 255, 127] = (5, 0) ∧ sv [255, 255, 255, 255, 127] = -1 := by decide +kernel
theorem ex2 : endF 32 32 [255, 255, 255, 255, 15] = (4, 2) := by decide +kernel

theorem lebS_ex1 (w W : World) (hb : Below (w.heap.size + 1) (w.alloc (.cells #[.int .u8 255, .int .u8 255, .int .u8 255, .int .u8 255, .int .u8 127] 5)) W) :
    Calls Try.prog 19 #[.slice (some ⟨w.heap.size, 0, none⟩) 5 5, .int .i64 32] W (fun e w' => e = .returned (.tuple #[.int .i64 (-1), .int .i64 5, .int .i64 0]) ∧ Below W.heap.size W w') := by
  have hs : Src W (w.heap.size + 1) (some ⟨w.heap.size, 0, none⟩) 5 [255, 255, 255, 255, 127] := (src_new w [255, 255, 255, 255, 127] 5).below hb (Nat.le_refl _)
  have hz := hb.size
  refine (lebS2 W (w.heap.size + 1) (some ⟨w.heap.size, 0, none⟩) 5 [255, 255, 255, 255, 127] 32 (by simpa using hz) hs (by decide) (by decide)).mono ?_
  rintro e w' ⟨v, n, k, rfl, h1, h2, h3, h4⟩
  rw [show bitsI 32 = 32 from rfl, ex1.1] at h1
  obtain ⟨rfl, rfl⟩ := Prod.mk.inj h1
  refine ⟨?_, h4⟩
  rw [(h2 rfl).1]
  show Ending.returned (.tuple #[.int .i64 (sv [255, 255, 255, 255, 127]), _, _]) = _
  rw [ex1.2]
theorem lebS_ex2 (w W : World) (hb : Below (w.heap.size + 1) (w.alloc (.cells #[.int .u8 255, .int .u8 255, .int .u8 255, .int .u8 255, .int .u8 15] 5)) W) :
    Calls Try.prog 19 #[.slice (some ⟨w.heap.size, 0, none⟩) 5 5, .int .i64 32] W (fun e w' => e = .returned (.tuple #[.int .i64 0, .int .i64 4, .int .i64 2]) ∧ Below W.heap.size W w') := by
  have hs : Src W (w.heap.size + 1) (some ⟨w.heap.size, 0, none⟩) 5 [255, 255, 255, 255, 15] := (src_new w [255, 255, 255, 255, 15] 5).below hb (Nat.le_refl _)
  have hz := hb.size
  refine (lebS2 W (w.heap.size + 1) (some ⟨w.heap.size, 0, none⟩) 5 [255, 255, 255, 255, 15] 32 (by simpa using hz) hs (by decide) (by decide)).mono ?_
  rintro e w' ⟨v, n, k, rfl, h1, h2, h3, h4⟩
  rw [show bitsI 32 = 32 from rfl, ex2] at h1
  obtain ⟨rfl, rfl⟩ := Prod.mk.inj h1
  refine ⟨?_, h4⟩
  rw [h3 (by decide)]

theorem putU_ex (W : World) : Calls Try.prog 11 #[.slice none 0 0, .int .u64 300] W (fun e w' => ∃ v, e = .returned v ∧ (convert 22 9 v).run Try.prog w' = .ok (.string ⟨#[172, 2]⟩) w' ∧ Below W.heap.size W w') := by
  have hu : uL 300 = [172, 2] := by rw [uL_big (by decide), uL_small (by decide)]; decide
  refine (lebPutU W W.heap.size (.slice none 0 0) [] 300 (by decide) (by decide) (Nat.le_refl _) (own_nil _ _) (by rw [hu]; decide)).mono ?_
  rintro e w' ⟨v, rfl, hown, hbel, hsz⟩
  rw [hu] at hown
  exact ⟨v, rfl, own_string hown, hbel⟩
theorem putS_ex (W : World) : Calls Try.prog 12 #[.slice none 0 0, .int .i64 (-1)] W (fun e w' => ∃ v, e = .returned v ∧ (convert 22 9 v).run Try.prog w' = .ok (.string ⟨#[127]⟩) w' ∧ Below W.heap.size W w') := by
  have hu : sL (-1) = [127] := by rw [sL_small (by decide)]; decide
  refine (lebPutS W W.heap.size (.slice none 0 0) [] (-1) (by decide) (by decide) (Nat.le_refl _) (own_nil _ _) (by rw [hu]; decide)).mono ?_
  rintro e w' ⟨v, rfl, hown, hbel, hsz⟩
  rw [hu] at hown
  exact ⟨v, rfl, own_string hown, hbel⟩

set_option maxHeartbeats 2000000 in
theorem awake_any (w : World) : Calls Try.prog 15 #[] w (fun e w' => e = .returned (.bool true) ∧ Below w.heap.size w w') := by
  go_enter Try.func15, Try.ntmps15
  go_upto_region 3 with (first | (go_at_call 19; refine (lebS_ex1 _ _ (Below.refl _ _)).mono ?_; rintro e w' ⟨rfl, hb1⟩; have hz1 := hb1.size; simp at hz1) | (go_at_call 19; refine (lebS_ex2 _ _ (Below.refl _ _)).mono ?_; rintro e w' ⟨rfl, hb2⟩; have hz2 := hb2.size; simp at hz2))
  go_wp2_with (first | (go_at_call 11; refine (putU_ex _).mono ?_; rintro e w' ⟨v3, rfl, hcv3, hb3⟩; have hz3 := hb3.size) | (go_at_call 12; refine (putS_ex _).mono ?_; rintro e w' ⟨v4, rfl, hcv4, hb4⟩; have hz4 := hb4.size))
  go_ret
  exact ⟨rfl, (by repeat (first | exact Below.refl _ _ | assumption | refine Below.alloc ?_ (by first | exact Nat.le_refl _ | (simp; done) | (simp; omega) | omega) _ | refine Below.drew ?_ | refine Below.setCell ?_ (by first | exact Nat.le_refl _ | (simp; done) | (simp; omega) | omega) _ | refine below_call ?_ (by assumption) (by first | exact Nat.le_refl _ | (simp; done) | (simp; omega) | omega)))⟩
end Go.Proofs.Ytlpocahflolmpaa
