/-
  DERIVED. GIVEN WITH THE SEED: THE PROGRAM's TIES (one call each: nine closed facts by the kernel) AND EACH ROW's TIE, after the 31st guide's Derived/Test/Toyas{Tie, Card}.lean. No idea stands in it: it is a product of the set-up. Laid BY PROGRAM, IN A SANDBOX (cutbox-door.mjs). By AI agents, Wed Nov 11 2026. No macro, syntax, notation, axiom, sorry.
-/
import Derived.Test.YtiohiiekaofkbaaDoorRows
import Derived.LaidByTextLater
import Derived.SevenTiedAt
import Derived.LaidSub
import Derived.LaidOnce
namespace Go.Proofs.YtiohiiekaofkbaaDoor
open Go
set_option maxRecDepth 100000
theorem seatTie1 : Tryd.prog.laidByTextLater [("dobby/span.none", Rows.laid_dobby_span_none), ("dobby/wtype.number", Rows.laid_dobby_wtype_number), ("dobby/wtype.one", Rows.laid_dobby_wtype_one), ("dobby/wtype.some", Rows.laid_dobby_wtype_some), ("dobby/names.none", Rows.laid_dobby_names_none), ("dobby/names.any2", Rows.laid_dobby_names_any2), ("dobby/names.some", Rows.laid_dobby_names_some)] [.data, .wider, .data, .wider, .data, .wider, .wider] true :=
  Program.laidByTextLater_by_one 44 8 3 (by kernel_rfl) (by kernel_rfl) (by kernel_rfl) (by kernel_rfl) (by kernel_rfl) (by kernel_rfl) (fun _ _ => by kernel_rfl)
theorem noOwnUnsafe : Tryd.pinned.checked.prog.headLifts.contains "ownunsafe" = false := by kernel_rfl
theorem tie : Tryd.prog.laidByTextLater [("dobby/span.none", Rows.laid_dobby_span_none), ("dobby/names.none", Rows.laid_dobby_names_none), ("dobby/names.any2", Rows.laid_dobby_names_any2), ("dobby/names.some", Rows.laid_dobby_names_some)] [.data, .data, .wider, .wider] true :=
  Program.laidByTextLater.sub seatTie1 ["dobby/span.none", "dobby/names.none", "dobby/names.any2", "dobby/names.some"] (by kernel_rfl) (by kernel_rfl)
theorem namesBack_row_tie : Rows.namesBackRow.laidByTextAt .later Tryd.pinned [.data, .data, .wider, .wider] true :=
  OpenClaim.laidByTextAt_later rfl rfl tie noOwnUnsafe
theorem tie2 : Tryd.prog.laidByTextLater [("dobby/wtype.number", Rows.laid_dobby_wtype_number)] [.wider] true :=
  Program.laidByTextLater.sub seatTie1 ["dobby/wtype.number"] (by kernel_rfl) (by kernel_rfl)
theorem wtypePuts_row_tie : Rows.wtypePutsRow.laidByTextAt .later Tryd.pinned [.wider] true :=
  OpenClaim.laidByTextAt_later rfl rfl tie2 noOwnUnsafe
theorem tie3 : Tryd.prog.laidByTextLater [("dobby/span.none", Rows.laid_dobby_span_none), ("dobby/wtype.number", Rows.laid_dobby_wtype_number), ("dobby/wtype.one", Rows.laid_dobby_wtype_one), ("dobby/wtype.some", Rows.laid_dobby_wtype_some)] [.data, .wider, .data, .wider] true :=
  Program.laidByTextLater.sub seatTie1 ["dobby/span.none", "dobby/wtype.number", "dobby/wtype.one", "dobby/wtype.some"] (by kernel_rfl) (by kernel_rfl)
theorem wtypeBack_row_tie : Rows.wtypeBackRow.laidByTextAt .later Tryd.pinned [.data, .wider, .data, .wider] true :=
  OpenClaim.laidByTextAt_later rfl rfl tie3 noOwnUnsafe
theorem tie4 : Tryd.prog.laidByTextLater [("dobby/span.none", Rows.laid_dobby_span_none)] [.data] true :=
  Program.laidByTextLater.sub seatTie1 ["dobby/span.none"] (by kernel_rfl) (by kernel_rfl)
theorem cursorPlaces_row_tie : Rows.cursorPlacesRow.laidByTextAt .later Tryd.pinned [.data] true :=
  OpenClaim.laidByTextAt_later rfl rfl tie4 noOwnUnsafe
theorem namesBackUpto_row_tie : Rows.namesBackUptoRow.laidByTextAt .later Tryd.pinned [.data, .data, .wider, .wider] true :=
  OpenClaim.laidByTextAt_later rfl rfl tie noOwnUnsafe
theorem wtypePutsUpto_row_tie : Rows.wtypePutsUptoRow.laidByTextAt .later Tryd.pinned [.wider] true :=
  OpenClaim.laidByTextAt_later rfl rfl tie2 noOwnUnsafe
theorem wtypeBackUpto_row_tie : Rows.wtypeBackUptoRow.laidByTextAt .later Tryd.pinned [.data, .wider, .data, .wider] true :=
  OpenClaim.laidByTextAt_later rfl rfl tie3 noOwnUnsafe
theorem cursorPlacesUpto_row_tie : Rows.cursorPlacesUptoRow.laidByTextAt .later Tryd.pinned [.data] true :=
  OpenClaim.laidByTextAt_later rfl rfl tie4 noOwnUnsafe
end Go.Proofs.YtiohiiekaofkbaaDoor
