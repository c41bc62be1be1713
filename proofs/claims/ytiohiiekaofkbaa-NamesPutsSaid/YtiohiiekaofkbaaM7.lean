/- What the chapter's example says: awake. -/
import Derived.Test.YtiohiiekaofkbaaM6
namespace Go.Proofs.Ytiohiiekaofkbaa
set_option linter.unusedVariables false
set_option linter.unusedSimpArgs false
open Go.RowKit Go.Proofs.Ytiohiiekaofkbaa.PNamesPuts Go.Proofs.YtiohiiekaofkbaaW.PrintWords

def exN : Ns := ⟨true, false, false, ⟨#[109]⟩, [], []⟩
theorem ex_right : rightB exN = true := by decide
theorem ex_put : strOfNums (putB exN) = ⟨#[0, 2, 1, 109]⟩ := by
  have h1 : putB exN = [0, 2, 1, 109] := by
    simp only [putB, exN, sec, txt, if_true, Bool.false_eq_true, if_false, List.append_nil]
    have e : bytesOf ⟨#[109]⟩ = [109] := rfl
    have z : (⟨#[109]⟩ : ByteArray).size = 1 := rfl
    have u1 : uL ((1 : Nat) : Int) = [1] := uL_small (by omega)
    have u2 : uL ((2 : Nat) : Int) = [2] := uL_small (by omega)
    rw [e, z, u1]
    show (0 : Int) :: (uL ((2 : Nat) : Int) ++ [1, 109]) = _
    rw [u2]
    rfl
  rw [h1]; rfl
theorem ex_walk (w : World) : Calls Try.prog 7 #[.agg #[.bool true, .bool false, .bool false, .string ⟨#[109]⟩, .slice none 0 0, .slice none 0 0]] w fun e w' => e = .returned (.tuple #[.string ⟨#[0, 2, 1, 109]⟩, .int .i64 0]) ∧ Below w.heap.size w w' := by
  have h := put_walk exN none 0 none 0 w ⟨Kd.C_nil _ _, Nat.le_refl _, Kd.C_nil _ _, Nat.le_refl _⟩ ⟨by decide, by decide, by decide, fun i hi => absurd hi (by simp [exN]), fun i hi => absurd hi (by simp [exN])⟩
    ⟨fun x hx => by simp [exN] at hx, fun x hx => by simp [exN] at hx, by have := txt_len exN.md (by decide); have : exN.md.size = 1 := rfl; omega, by simp [exN, nlB, nmsB]; have := uL_max 0 (by omega) (by omega); omega, by simp [exN, llB, losB]; have := uL_max 0 (by omega) (by omega); omega⟩
  rw [ex_right, ex_put] at h
  exact h
set_option maxHeartbeats 1000000 in
theorem awake14_walk (w : World) : Calls Try.prog 11 #[] w fun e w' => e = .returned (.bool true) ∧ Below w.heap.size w w' := by
  go_enter Try.func11, Try.ntmps11
  go_wp2_with (first | (go_at_call 7; refine (ex_walk _).mono ?_; rintro e w' ⟨rfl, hb1⟩))
  go_ret
  exact ⟨rfl, hb1⟩
end Go.Proofs.Ytiohiiekaofkbaa
