/-
  For any bytes and any number of 64 bits: what is put of it behind the bytes, with and without a sign, and how many bytes that are, are what the document says; the chapter's examples hold. No condition beyond the row's own.
-/
import Derived.Test.YtlpocahflolmpaaR0
import Derived.Test.YtlpocahflolmpaaP0
namespace Go.Proofs.Ytlpocahflolmpaa
set_option linter.unusedVariables false
set_option linter.unusedSimpArgs false
open Go.ChangeShapes Go.WideShapes Go.ChangeAt Go.RowKit Go.Joins

set_option maxRecDepth 100000 in
theorem puts_lifted (os : Os) (started : os.Started) (H : Type) (enc : TypeId × Value → H) :
    ReturnsInHanded {} Try.checked os 3 .any (Rows.lebPutsSpec.pre6 enc Try.prog Try.f3 Rows.lebPutsRow.domain false) (Rows.lebPutsSpec.post enc Try.prog Try.f3 false true false false) := by
  refine returnsInHanded_of_change (C := Try.checked) own started (by kernel_rfl) Try.func3
    (ChangeSpec.witness6 (enc := enc) (C := Try.checked) false ⟨#[], #[.slice none 0 0, .int .u64 0], []⟩ 8 (by kernel_rfl) (by kernel_rfl) (by kernel_rfl) (by kernel_rfl)) ?_
  intro W base args ds gs before hval0 hW hcnd _
  have hval : ∀ (j : Nat) t v, Try.f3.params[j]? = some t → args[j]? = some v → Value.okWide Try.prog W .any base t v := hval0
  have hW' := hW
  obtain ⟨p, q, hA0, hV, rfl, hfz, hnd⟩ := hW
  have hA : DataW.TrodAll enc Try.prog W 0 (fun _ => true) true Try.f3.params.toList args.toList ds p := hA0
  rw [Try.params3] at hA hval
  obtain ⟨v0, v1, d0, d1, p0, p1, rfl, rfl, rfl, h0, h1⟩ := trodAll_two hA
  obtain ⟨rfl, rfl⟩ := trodVars_none hV
  have h0k := h0
  obtain ⟨A, c, l, rfl, hcame, hlen⟩ := came_of (hval 0 22 v0 rfl rfl) h0
  obtain ⟨n, rfl, rfl, rfl, wn⟩ := open_int Try.underlying23 (hval 1 23 v1 rfl rfl) h1
  have bn := bounds_u64 wn
  clear hA0 hval0
  simp only [List.append_nil] at hW'
  have hlt : ∀ x ∈ p0, x.block < W.heap.size := fun x hx => hW'.lt x hx
  refine (puts_walk A c l n W hcame (by omega) bn.1 bn.2).mono fun e W' ⟨he, bel⟩ => ?_
  subst he
  have hT := trodAll_mk2 (Below.trod laidOut (by kernel_rfl) (of_decide_eq_true (by kernel_rfl)) h0k bel hlt) (shut_int (enc := enc) (P := Try.prog) (w := W') (base := 0) (spare := fun b => decide (b < W.heap.size)) (held := true) Try.underlying23 wn)
  simp only [List.append_nil] at hT
  exact ⟨_, rfl, _, _, _, [], p0, [], hW', trodAll_mk1 (shut_bool Try.underlying4 true), hT, rfl, bel.frame _, fun h => by cases h⟩

theorem lebPuts_holds : Rows.LebPutsSaid :=
  OpenClaim.holds_of_wide 3 Try.f3 rfl rfl rfl rfl rfl rfl rfl ⟨rfl, rfl, rfl, rfl, rfl⟩ rfl rfl rfl rfl rfl (by kernel_rfl) Try.func3 (by kernel_rfl)
    (of_decide_eq_true (by kernel_rfl)) (by unfold Func.isWrapper; rw [if_neg (of_decide_eq_false (by kernel_rfl))]; exact ⟨rfl, rfl⟩)
    (fun os started H enc _ => puts_lifted os started H enc)
#print axioms lebPuts_holds
end Go.Proofs.Ytlpocahflolmpaa
