/- What the condition 'laid' gives of dobby/span.none, and the witness (for all rows of this seat). -/
import Derived.Test.YtlpocahflolmpaaDoorRows
import Derived.Test.YtlpocahflolmpaaDoorCards
import Derived.Test.YtlpocahflolmpaaDoorTie
import Derived.Test.YtlpocahflolmpaaDoorB7
import Derived.ProofKit
import Derived.LaidMore
import Derived.OpenShut
import Derived.Stop.Joined
import Derived.Lib.SmallJoins
namespace Go.Proofs.YtlpocahflolmpaaDoor
set_option linter.unusedVariables false
set_option linter.unusedSimpArgs false
open Go.ChangeShapes Go.WideShapes Go.ChangeAt Go.RowKit Go.Joins

theorem own : ownKnob Tryd.prog.godebug = none := by kernel_rfl
theorem gNone : Tryd.prog.globalNamed "dobby/span.none" = some 0 := by kernel_rfl
theorem tNone : (Tryd.prog.globals[0]?).map (·.type) = some 27 := by kernel_rfl
theorem c27 : Tryd.prog.cellsOf 27 = 2 := by kernel_rfl
theorem c25 : Tryd.prog.cellsOf 25 = 1 := by kernel_rfl
theorem c23 : Tryd.prog.cellsOf 23 = 2 := by kernel_rfl
theorem c3 : Tryd.prog.cellsOf 3 = 1 := by kernel_rfl
def laidL : List (String × (∀ {H : Type}, DataW H)) := []

theorem door_met (os : Os) (args : Array Value) : laidMetH Tryd.prog Rows.spanAddsRow.laid ((World.doorLaid Tryd.prog 400 os).forCall (fun _ _ => 0) ⟨#[], args, []⟩).memory :=
  laidMetH_of_parts3 (fuel := 8) (laidMet_of_run' 8 (by kernel_rfl) (by kernel_rfl)) (by kernel_rfl) (by kernel_rfl)

theorem glob_of_laid {W : World} (h : laidMetH Tryd.prog Rows.spanAddsRow.laid W) : Glob W := by
  rw [MakeChecks.laidMetH_plain _ _ _ (by kernel_rfl)] at h
  obtain ⟨ps, ⟨g0, t0, cs0, f0, p0, q0, hg0, ht0, hv0, hd0, _, _⟩, _, _⟩ := h
  obtain rfl := Option.some.inj (gNone.symm.trans hg0)
  obtain rfl := Option.some.inj (tNone.symm.trans ht0)
  obtain ⟨y0, y1, n, hx, hlen, h0, h1⟩ := trod_struct2 Tryd.underlying27 hd0
  obtain ⟨a, e0, ea, _⟩ := DataW.trod_int Tryd.underlying25 h0
  obtain ⟨b, e1, eb, _⟩ := DataW.trod_int Tryd.underlying25 h1
  rw [c27] at hlen
  rw [c25] at e0 e1
  simp only [Rows.laid_dobby_span_none, Prod.mk.injEq, DataW.agg.injEq, List.cons.injEq] at hx
  obtain ⟨⟨hx0, hx1, _⟩, _⟩ := hx
  rw [ea] at hx0
  rw [eb] at hx1
  have ha : a = 1 := by simpa using hx0.symm
  have hb : b = 0 := by simpa using hx1.symm
  subst ha hb
  have v0 := World.var?_cell hg0 hv0 0
  have v1 := World.var?_cell hg0 hv0 1
  obtain ⟨l⟩ := cs0
  match l, hlen, e0, e1 with
  | [x0, x1], _, e0, e1 =>
    simp at e0 e1
    subst e0 e1
    have z0 : W.cell? ⟨0, 0, none⟩ = some (.int .u64 1) := by simpa using v0
    have z1 : W.cell? ⟨0, 1, none⟩ = some (.int .u64 0) := by simpa using v1
    exact ⟨cell_lt z0, z0, z1⟩

end Go.Proofs.YtlpocahflolmpaaDoor
