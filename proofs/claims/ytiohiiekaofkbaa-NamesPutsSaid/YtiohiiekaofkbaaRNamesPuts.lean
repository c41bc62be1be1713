/-
  For any two values of names: whether the first may be, its bytes, and whether the two are the same, are what the document says (of lists of 30 at most, of 3000 bytes in all; greater ones are let go); the chapter's example holds. No condition beyond the row's own.
-/
import Derived.Test.YtiohiiekaofkbaaRows
import Derived.Test.YtiohiiekaofkbaaN0
import Derived.ProofKit
import Derived.ChangeOld
import Derived.SizedLaws
import Derived.OpenShut
namespace Go.Proofs.Ytiohiiekaofkbaa
set_option linter.unusedVariables false
set_option linter.unusedSimpArgs false
open Go.ChangeShapes Go.WideShapes Go.ChangeAt Go.RowKit Go.Joins Go.ChangeMaps

theorem own : ownKnob Try.prog.godebug = none := by kernel_rfl
theorem laidOut : laidOutB Try.prog = true := by kernel_rfl
set_option maxRecDepth 100000 in
theorem puts_lifted (os : Os) (started : os.Started) (H : Type) (enc : TypeId × Value → H) :
    ReturnsInHanded {} Try.checked os 3 .any (Rows.namesPutsSpec.pre6 enc Try.prog Try.f3 Rows.namesPutsRow.domain false) (Rows.namesPutsSpec.post enc Try.prog Try.f3 false true false false) := by
  refine returnsInHanded_of_change_sized (C := Try.checked) own started (by kernel_rfl) Try.func3
    (ChangeSpec.witness6 (enc := enc) (C := Try.checked) false ⟨#[], #[.agg #[.bool false, .bool false, .bool false, .string ByteArray.empty, .slice none 0 0, .slice none 0 0], .agg #[.bool false, .bool false, .bool false, .string ByteArray.empty, .slice none 0 0, .slice none 0 0]], []⟩ 8 (by kernel_rfl) (by kernel_rfl) (by kernel_rfl) (by kernel_rfl)) ?_
  intro W base args ds gs before hval0 hW hcnd hsz0 _
  have hsz : (DataW.weightsEach Try.prog (Try.f3.params.toList ++ Rows.namesPutsSpec.plain.varTypes Try.prog) (ds ++ gs)).all (· ≤ reachBytes) = true := hsz0
  have hval : ∀ (j : Nat) t v, Try.f3.params[j]? = some t → args[j]? = some v → Value.okWide Try.prog W .any base t v := hval0
  have hW' := hW
  obtain ⟨p, q, hA0, hV, rfl, hfz, hnd⟩ := hW
  have hA : DataW.TrodAll enc Try.prog W 0 (fun _ => true) true Try.f3.params.toList args.toList ds p := hA0
  rw [Try.params3] at hA hval
  obtain ⟨v0, v1, d0, d1, p0, p1, rfl, rfl, rfl, h0, h1⟩ := trodAll_two hA
  obtain ⟨rfl, rfl⟩ := trodVars_none hV
  have hwt : ∀ (j : Nat) (t : TypeId) (d : DataW H), [25, 25][j]? = some t → [d0, d1][j]? = some d → ∀ m ∈ d.weights Try.prog t, m ≤ 140737488351232 := by
    intro j t d ht hd m hm
    have hin := DataW.weights_mem_each ht hd m hm
    have hsz2 : (DataW.weightsEach Try.prog [25, 25] [d0, d1]).all (· ≤ reachBytes) = true := by
      have e : Try.f3.params.toList ++ Rows.namesPutsSpec.plain.varTypes Try.prog = [25, 25] := by rw [Try.params3]; rfl
      rw [e] at hsz
      simpa using hsz
    have := List.all_eq_true.1 hsz2 m hin
    exact of_decide_eq_true this
  obtain ⟨x, A, c, B, e, rfl, hx, hxf⟩ := open_rNames (hval 0 25 v0 rfl rfl) h0 (hwt 0 _ _ rfl rfl)
  obtain ⟨y, A', c', B', e', rfl, hy, hyf⟩ := open_rNames (hval 1 25 v1 rfl rfl) h1 (hwt 1 _ _ rfl rfl)
  have k0 := h0
  have k1 := h1
  have lt0 : ∀ z ∈ p0, z.block < W.heap.size := by obtain ⟨m, hm⟩ := k0; exact DataW.trod_lt m _ _ _ hm
  have lt1 : ∀ z ∈ p1, z.block < W.heap.size := by obtain ⟨m, hm⟩ := k1; exact DataW.trod_lt m _ _ _ hm
  clear hA0 hval0 hsz0 hsz hwt
  simp only [List.append_nil] at hW'
  refine (puts_walk x y A c B e A' c' B' e' W hx hy hxf hyf).mono fun r W' ⟨he, bel⟩ => ?_
  subst he
  exact ⟨_, rfl, _, _, _, [], _, [], hW', trodAll_mk1 (shut_bool Try.underlying4 true), trodAll_mk2 (Below.trod laidOut (by kernel_rfl) (of_decide_eq_true (by kernel_rfl)) k0 bel lt0) (Below.trod laidOut (by kernel_rfl) (of_decide_eq_true (by kernel_rfl)) k1 bel lt1), rfl, bel.frame _, fun h => by cases h⟩

theorem namesPuts_holds : Rows.NamesPutsSaid :=
  OpenClaim.holds_of_wide 3 Try.f3 rfl rfl rfl rfl rfl rfl rfl ⟨rfl, rfl, rfl, rfl, rfl⟩ rfl rfl rfl rfl rfl (by kernel_rfl) Try.func3 (by kernel_rfl)
    (of_decide_eq_true (by kernel_rfl)) (by unfold Func.isWrapper; rw [if_neg (of_decide_eq_false (by kernel_rfl))]; exact ⟨rfl, rfl⟩)
    (fun os started H enc _ => puts_lifted os started H enc)
#print axioms namesPuts_holds
end Go.Proofs.Ytiohiiekaofkbaa
