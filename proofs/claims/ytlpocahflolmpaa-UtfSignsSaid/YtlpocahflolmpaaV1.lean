/- The reference's Sign; the statement UtfSigns: its walk. -/
import Derived.Test.YtlpocahflolmpaaV0
import Derived.Test.YtlpocahflolmpaaB12
namespace Go.Proofs.Ytlpocahflolmpaa
set_option linter.unusedVariables false
set_option linter.unusedSimpArgs false
open Go.RowKit

theorem ns_str (l : List Int) (h : ∀ x ∈ l, 0 ≤ x ∧ x < 256) : ns (strOfNums l) = l := by
  unfold ns strOfNums
  simp only [List.map_map]
  conv => rhs; rw [← List.map_id l]
  apply List.map_congr_left
  intro x hx
  have := h x hx
  simp
  omega
theorem ns_app (a b : ByteArray) : ns (a ++ b) = ns a ++ ns b := by
  unfold ns
  simp
theorem str_size (l : List Int) : (strOfNums l).size = l.length := by simp [strOfNums, ByteArray.size]
/-- the string of a literal -/
theorem lit_string (w : World) (l : List Int) (n c : Nat) (hn : l.length = n) : (convert 22 9 (.slice (some ⟨w.heap.size, 0, none⟩) n c)).run Try.prog (w.alloc (.cells (bv l).toArray 5)) = .ok (.string (strOfNums l)) (w.alloc (.cells (bv l).toArray 5)) := by
  refine run_convert_bytes_arg _ 22 5 Try.underlying22 Try.underlying5 w.heap.size 0 n c l hn (fun i hi => ?_) 9 Try.underlying9
  rw [Nat.zero_add, World.cell?_alloc_new]
  simp [bv, List.getD, List.getElem?_eq_getElem (show i < l.length by omega)]

set_option maxHeartbeats 2000000 in
theorem sign_num (n : Int) (w : World) (h0 : 0 ≤ n) (h1 : n ≤ 1114111) :
    Calls Try.prog 26 #[.int .i64 n] w (fun e w' => e = .returned (.string (strOfNums (signL n))) ∧ Below w.heap.size w w') := by
  have hc : n < 128 ∨ (128 ≤ n ∧ n < 2048) ∨ (2048 ≤ n ∧ n < 65536) ∨ 65536 ≤ n := by omega
  rcases hc with c1 | ⟨c0, c1⟩ | ⟨c0, c1⟩ | c0
  · have HV := hid (show signL n = [n] by unfold signL; rw [if_pos (by omega)])
    have hc : (convert 22 9 (.slice (some ⟨w.heap.size, 0, none⟩) 1 1)).run Try.prog (w.alloc (.cells #[.int .u8 (n)] 5)) = .ok (.string (strOfNums [n])) (w.alloc (.cells #[.int .u8 (n)] 5)) := lit_string w [n] 1 1 rfl
    have d0 : 0 ≤ n / 64 := by omega
    have d1 : n / 64 ≤ 20000 := by omega
    have d2 : 0 ≤ n / 4096 := by omega
    have d3 : n / 4096 ≤ 15 := by omega
    have d4 : n / 262144 ≤ 4 := by omega
    have d5 : 0 ≤ n / 262144 := by omega
    go_enter Try.func26, Try.ntmps26
    go_wp2
    go_ret
    exact ⟨by rw [HV.out]; rfl, (by repeat (first | exact Below.refl _ _ | assumption | refine Below.alloc ?_ (by first | exact Nat.le_refl _ | (simp; done) | (simp; omega) | omega) _ | refine Below.drew ?_ | refine Below.setCell ?_ (by first | exact Nat.le_refl _ | (simp; done) | (simp; omega) | omega) _ | refine below_call ?_ (by assumption) (by first | exact Nat.le_refl _ | (simp; done) | (simp; omega) | omega)))⟩
  · have HV := hid (show signL n = [192 + n / 64, 128 + n % 64] by unfold signL; rw [if_neg (by omega), if_pos (by omega)])
    have hc : (convert 22 9 (.slice (some ⟨w.heap.size, 0, none⟩) 2 2)).run Try.prog (w.alloc (.cells #[.int .u8 (192 + n / 64), .int .u8 (128 + n % 64)] 5)) = .ok (.string (strOfNums [192 + n / 64, 128 + n % 64])) (w.alloc (.cells #[.int .u8 (192 + n / 64), .int .u8 (128 + n % 64)] 5)) := lit_string w [192 + n / 64, 128 + n % 64] 2 2 rfl
    have d0 : 0 ≤ n / 64 := by omega
    have d1 : n / 64 ≤ 20000 := by omega
    have d2 : 0 ≤ n / 4096 := by omega
    have d3 : n / 4096 ≤ 15 := by omega
    have d4 : n / 262144 ≤ 4 := by omega
    have d5 : 0 ≤ n / 262144 := by omega
    go_enter Try.func26, Try.ntmps26
    go_wp2
    go_ret
    exact ⟨by rw [HV.out]; rfl, (by repeat (first | exact Below.refl _ _ | assumption | refine Below.alloc ?_ (by first | exact Nat.le_refl _ | (simp; done) | (simp; omega) | omega) _ | refine Below.drew ?_ | refine Below.setCell ?_ (by first | exact Nat.le_refl _ | (simp; done) | (simp; omega) | omega) _ | refine below_call ?_ (by assumption) (by first | exact Nat.le_refl _ | (simp; done) | (simp; omega) | omega)))⟩
  · have HV := hid (show signL n = [224 + n / 4096, 128 + n / 64 % 64, 128 + n % 64] by unfold signL; rw [if_neg (by omega), if_neg (by omega), if_pos (by omega)])
    have hc : (convert 22 9 (.slice (some ⟨w.heap.size, 0, none⟩) 3 3)).run Try.prog (w.alloc (.cells #[.int .u8 (224 + n / 4096), .int .u8 (128 + n / 64 % 64), .int .u8 (128 + n % 64)] 5)) = .ok (.string (strOfNums [224 + n / 4096, 128 + n / 64 % 64, 128 + n % 64])) (w.alloc (.cells #[.int .u8 (224 + n / 4096), .int .u8 (128 + n / 64 % 64), .int .u8 (128 + n % 64)] 5)) := lit_string w [224 + n / 4096, 128 + n / 64 % 64, 128 + n % 64] 3 3 rfl
    have d0 : 0 ≤ n / 64 := by omega
    have d1 : n / 64 ≤ 20000 := by omega
    have d2 : 0 ≤ n / 4096 := by omega
    have d3 : n / 4096 ≤ 15 := by omega
    have d4 : n / 262144 ≤ 4 := by omega
    have d5 : 0 ≤ n / 262144 := by omega
    go_enter Try.func26, Try.ntmps26
    go_wp2
    go_ret
    exact ⟨by rw [HV.out]; rfl, (by repeat (first | exact Below.refl _ _ | assumption | refine Below.alloc ?_ (by first | exact Nat.le_refl _ | (simp; done) | (simp; omega) | omega) _ | refine Below.drew ?_ | refine Below.setCell ?_ (by first | exact Nat.le_refl _ | (simp; done) | (simp; omega) | omega) _ | refine below_call ?_ (by assumption) (by first | exact Nat.le_refl _ | (simp; done) | (simp; omega) | omega)))⟩
  · have HV := hid (show signL n = [240 + n / 262144, 128 + n / 4096 % 64, 128 + n / 64 % 64, 128 + n % 64] by unfold signL; rw [if_neg (by omega), if_neg (by omega), if_neg (by omega)])
    have hc : (convert 22 9 (.slice (some ⟨w.heap.size, 0, none⟩) 4 4)).run Try.prog (w.alloc (.cells #[.int .u8 (240 + n / 262144), .int .u8 (128 + n / 4096 % 64), .int .u8 (128 + n / 64 % 64), .int .u8 (128 + n % 64)] 5)) = .ok (.string (strOfNums [240 + n / 262144, 128 + n / 4096 % 64, 128 + n / 64 % 64, 128 + n % 64])) (w.alloc (.cells #[.int .u8 (240 + n / 262144), .int .u8 (128 + n / 4096 % 64), .int .u8 (128 + n / 64 % 64), .int .u8 (128 + n % 64)] 5)) := lit_string w [240 + n / 262144, 128 + n / 4096 % 64, 128 + n / 64 % 64, 128 + n % 64] 4 4 rfl
    have d0 : 0 ≤ n / 64 := by omega
    have d1 : n / 64 ≤ 20000 := by omega
    have d2 : 0 ≤ n / 4096 := by omega
    have d3 : n / 4096 ≤ 300 := by omega
    have d4 : n / 262144 ≤ 4 := by omega
    have d5 : 0 ≤ n / 262144 := by omega
    go_enter Try.func26, Try.ntmps26
    go_wp2
    go_ret
    exact ⟨by rw [HV.out]; rfl, (by repeat (first | exact Below.refl _ _ | assumption | refine Below.alloc ?_ (by first | exact Nat.le_refl _ | (simp; done) | (simp; omega) | omega) _ | refine Below.drew ?_ | refine Below.setCell ?_ (by first | exact Nat.le_refl _ | (simp; done) | (simp; omega) | omega) _ | refine below_call ?_ (by assumption) (by first | exact Nat.le_refl _ | (simp; done) | (simp; omega) | omega)))⟩

end Go.Proofs.Ytlpocahflolmpaa
