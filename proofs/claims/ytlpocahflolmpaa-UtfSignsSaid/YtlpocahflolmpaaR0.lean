/- What a slice of bytes that came in gives (for the rows of this seat). -/
import Derived.Test.YtlpocahflolmpaaRows
import Derived.Test.YtlpocahflolmpaaT0
import Derived.ProofKit
import Derived.OpenShut
import Derived.Carry
import Derived.WideShapes
import Derived.Lib.SmallJoins
import Derived.ChangeMaps5
namespace Go.Proofs.Ytlpocahflolmpaa
set_option linter.unusedVariables false
set_option linter.unusedSimpArgs false
open Go.ChangeShapes Go.WideShapes Go.ChangeAt Go.RowKit Go.Joins

theorem own : ownKnob Try.prog.godebug = none := by kernel_rfl
theorem laidOut : laidOutB Try.prog = true := by kernel_rfl
theorem c5 : Try.prog.cellsOf 5 = 1 := by kernel_rfl

theorem came_of {H : Type} {enc : TypeId × Value → H} {W : World} {base : Nat} {v : Value} {d : DataW H} {p : List MemPlace} (hval : Value.okWide Try.prog W .any base 22 v)
    (h : DataW.Trod enc Try.prog W 0 (fun _ => true) true 22 v d p) : ∃ A c l, v = .slice A l.length c ∧ Came W W.heap.size A c l ∧ l.length ≤ 9223372036854775807 := by
  obtain ⟨a1, len, cap, rfl⟩ := okWide_slice Try.underlying22 hval
  obtain ⟨fuel, hf⟩ := h
  rcases open_ints Try.underlying22 Try.underlying5 c5 hf with ⟨hcs, hx⟩ | ⟨a, len', cap', zs, hcs, _, hl, hm, hz, hx, hcell, hwz⟩
  · simp [Value.cells] at hcs
    obtain ⟨rfl, rfl, rfl⟩ := hcs
    exact ⟨none, 0, [], rfl, ⟨.inl ⟨rfl, rfl, rfl⟩, by simp⟩, by simp⟩
  · simp [Value.cells] at hcs
    obtain ⟨rfl, rfl, rfl⟩ := hcs
    simp only [if_true] at hz
    have hlen : (zs.take len).length = len := by simp; omega
    unfold maxLen at hm
    refine ⟨some a, cap, zs.take len, by rw [hlen], ⟨.inr ⟨a, rfl, fun hne => ?_, fun j u hu => ?_⟩, fun x hx => ?_⟩, by omega⟩
    · have hpos : 0 < zs.length := by
        rcases Nat.eq_zero_or_pos zs.length with h0 | h0
        · have : zs = [] := List.eq_nil_of_length_eq_zero h0
          subst this; simp at hne
        · exact h0
      have := World.block_lt_of_cell? W _ (hcell 0 hpos)
      rwa [show (a.add 0).block = a.block by unfold Addr.add; split <;> rfl] at this
    · simp only [bv, List.getElem?_map] at hu
      rcases hj : (zs.take len)[j]? with _ | y
      · rw [hj] at hu; simp at hu
      · rw [hj] at hu
        simp at hu
        subst hu
        obtain ⟨hjl, hjy⟩ := List.getElem?_eq_some_iff.1 hj
        rw [hlen] at hjl
        have := hcell j (by omega)
        rw [this]
        congr 2
        rw [← hjy]
        simp [List.getD, List.getElem?_eq_getElem (show j < zs.length by omega)]
    · have hx' := List.mem_of_mem_take hx
      obtain ⟨i, hi, rfl⟩ := List.mem_iff_getElem.1 hx'
      have := range_u8 hwz i
      rw [show zs[i]?.getD 0 = zs[i] by simp [List.getElem?_eq_getElem hi]] at this
      omega

end Go.Proofs.Ytlpocahflolmpaa
