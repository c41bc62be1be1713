/-
  DERIVED. GIVEN WITH THE SEED: THE PROGRAM's TIES (one call each: nine closed facts by the kernel) AND EACH ROW's TIE, after the 31st guide's Derived/Test/Toyas{Tie, Card}.lean. No idea stands in it: it is a product of the set-up. Laid BY PROGRAM, IN A SANDBOX (cutbox-door.mjs). By AI agents, Wed Nov 11 2026. No macro, syntax, notation, axiom, sorry.
-/
import Derived.Test.YtiohiiekaofkbaaGreatDoorRows
import Derived.LaidByTextLater
import Derived.SevenTiedAt
import Derived.LaidSub
import Derived.LaidOnce
namespace Go.Proofs.YtiohiiekaofkbaaGreatDoor
open Go
set_option maxRecDepth 100000
theorem seatTie1 : Tryz.prog.laidByTextLater [("dobby/span.none", Rows.laid_dobby_span_none), ("dobby/names.none", Rows.laid_dobby_names_none), ("dobby/names.any2", Rows.laid_dobby_names_any2), ("dobby/names.some", Rows.laid_dobby_names_some)] [.data, .data, .wider, .wider] true :=
  Program.laidByTextLater_by_one 29 8 3 (by kernel_rfl) (by kernel_rfl) (by kernel_rfl) (by kernel_rfl) (by kernel_rfl) (by kernel_rfl) (fun _ _ => by kernel_rfl)
theorem noOwnUnsafe : Tryz.pinned.checked.prog.headLifts.contains "ownunsafe" = false := by kernel_rfl
theorem tie : Tryz.prog.laidByTextLater [("dobby/span.none", Rows.laid_dobby_span_none), ("dobby/names.none", Rows.laid_dobby_names_none), ("dobby/names.any2", Rows.laid_dobby_names_any2), ("dobby/names.some", Rows.laid_dobby_names_some)] [.data, .data, .wider, .wider] true :=
  Program.laidByTextLater.sub seatTie1 ["dobby/span.none", "dobby/names.none", "dobby/names.any2", "dobby/names.some"] (by kernel_rfl) (by kernel_rfl)
theorem namesReads_row_tie : Rows.namesReadsRow.laidByTextAt .later Tryz.pinned [.data, .data, .wider, .wider] true :=
  OpenClaim.laidByTextAt_later rfl rfl tie noOwnUnsafe
theorem namesReadsUpto_row_tie : Rows.namesReadsUptoRow.laidByTextAt .later Tryz.pinned [.data, .data, .wider, .wider] true :=
  OpenClaim.laidByTextAt_later rfl rfl tie noOwnUnsafe
end Go.Proofs.YtiohiiekaofkbaaGreatDoor
