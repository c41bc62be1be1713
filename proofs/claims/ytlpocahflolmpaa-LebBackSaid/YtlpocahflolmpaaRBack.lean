/-
  For any number of 64 bits: what is put of it, with and without a sign, also in more bytes, is taken as it was, whatever stands behind; cut anywhere bytes lack; no fewer bytes stand for it; the chapter's examples hold. No condition beyond the row's own.
-/
import Derived.Test.YtlpocahflolmpaaR0
import Derived.Test.YtlpocahflolmpaaK1
namespace Go.Proofs.Ytlpocahflolmpaa
set_option linter.unusedVariables false
set_option linter.unusedSimpArgs false
open Go.ChangeShapes Go.WideShapes Go.ChangeAt Go.RowKit Go.Joins

set_option maxRecDepth 100000 in
theorem back_lifted (os : Os) (started : os.Started) (H : Type) (enc : TypeId × Value → H) :
    ReturnsInHanded {} Try.checked os 6 .any (Rows.lebBackSpec.pre6 enc Try.prog Try.f6 Rows.lebBackRow.domain false) (Rows.lebBackSpec.post enc Try.prog Try.f6 false true false false) := by
  refine returnsInHanded_of_change (C := Try.checked) own started (by kernel_rfl) Try.func6
    (ChangeSpec.witness6 (enc := enc) (C := Try.checked) false ⟨#[], #[.int .u64 0, .int .u8 0, .int .u8 0], []⟩ 8 (by kernel_rfl) (by kernel_rfl) (by kernel_rfl) (by kernel_rfl)) ?_
  intro W base args ds gs before hval0 hW hcnd _
  have hval : ∀ (j : Nat) t v, Try.f6.params[j]? = some t → args[j]? = some v → Value.okWide Try.prog W .any base t v := hval0
  have hW' := hW
  obtain ⟨p, q, hA0, hV, rfl, hfz, hnd⟩ := hW
  have hA : DataW.TrodAll enc Try.prog W 0 (fun _ => true) true Try.f6.params.toList args.toList ds p := hA0
  rw [Try.params6] at hA hval
  obtain ⟨v0, v1, v2, d0, d1, d2, p0, p1, p2, rfl, rfl, rfl, h0, h1, h2⟩ := trodAll_three hA
  obtain ⟨rfl, rfl⟩ := trodVars_none hV
  obtain ⟨v, rfl, rfl, rfl, wv⟩ := open_int Try.underlying23 (hval 0 23 v0 rfl rfl) h0
  have bv' := bounds_u64 wv
  obtain ⟨n, rfl, rfl, rfl, wn⟩ := open_int Try.underlying5 (hval 1 5 v1 rfl rfl) h1
  obtain ⟨m, rfl, rfl, rfl, wm⟩ := open_int Try.underlying5 (hval 2 5 v2 rfl rfl) h2
  have bn := bounds_u8 wn
  have bm := bounds_u8 wm
  clear hA0 hval0
  simp only [List.append_nil] at hW'
  refine (back_walk v n m W bv'.1 bv'.2 bn.1 bn.2 bm.1 bm.2).mono fun e W' ⟨he, bel⟩ => ?_
  subst he
  have hT := trodAll_mk3 (shut_int (enc := enc) (P := Try.prog) (w := W') (base := 0) (spare := fun b => decide (b < W.heap.size)) (held := true) Try.underlying23 wv) (shut_int (enc := enc) (P := Try.prog) (w := W') (base := 0) (spare := fun b => decide (b < W.heap.size)) (held := true) Try.underlying5 wn) (shut_int Try.underlying5 wm)
  simp only [List.append_nil] at hT
  exact ⟨_, rfl, _, _, _, [], [], [], hW', trodAll_mk1 (shut_bool Try.underlying4 true), hT, rfl, bel.frame _, fun h => by cases h⟩

theorem lebBack_holds : Rows.LebBackSaid :=
  OpenClaim.holds_of_wide 6 Try.f6 rfl rfl rfl rfl rfl rfl rfl ⟨rfl, rfl, rfl, rfl, rfl⟩ rfl rfl rfl rfl rfl (by kernel_rfl) Try.func6 (by kernel_rfl)
    (of_decide_eq_true (by kernel_rfl)) (by unfold Func.isWrapper; rw [if_neg (of_decide_eq_false (by kernel_rfl))]; exact ⟨rfl, rfl⟩)
    (fun os started H enc _ => back_lifted os started H enc)
#print axioms lebBack_holds
end Go.Proofs.Ytlpocahflolmpaa
