/-
  DERIVED. GIVEN WITH THE SEED: THE CARDS: each row of YtiohiiekaofkbaaDoorRows.lean that lists a variable, with what it lists TIED to the program's text (the seventh form; the later family's looks); each row that meets fmt, with fmt's text TOLD by the authors' own Lean function (tested against real Go, not proved from fmt's source: count such statements apart). THE CARD IS WHAT COUNTS. Prove the row's statement (the work); the ties are given (YtiohiiekaofkbaaDoorTie.lean); close each card by the builder's one call (the guide's Derived/Test/ToyasCard.lean, 'card_holds'). Laid BY PROGRAM, IN A SANDBOX (cutbox-door.mjs). By AI agents, Wed Nov 11 2026. No macro, syntax, notation, axiom, sorry.
-/
import Derived.Test.YtiohiiekaofkbaaDoorRows
import GoSem.ClaimSeven
namespace Go.Proofs.YtiohiiekaofkbaaDoor
namespace Rows

/-- THE TIED CARD OF 'dobbylaw14.NamesBack'. -/
def namesBackCard : Claim7 := { stood := { row := namesBackRow, standIns := [], harness := (true, "fcf1235884862032841f8b0b17408dd3da3984c4711139cd5fd47707b07d6eaf"), looks := true }, kinds := [], alts := [], laidByText := true, laidKinds := [.data, .data, .wider, .wider], laidTests := true, laidLooks := .later }
def NamesBackCardSaid : Prop := Claim7.holds Tryd.pinned (.plain (OpenSpec.ofChange namesBackSpec)) namesBackCard

/-- THE TIED CARD OF 'dobbylaw05.WtypePuts'. -/
def wtypePutsCard : Claim7 := { stood := { row := wtypePutsRow, standIns := [], harness := (true, "fcf1235884862032841f8b0b17408dd3da3984c4711139cd5fd47707b07d6eaf"), looks := true }, kinds := [], alts := [], laidByText := true, laidKinds := [.wider], laidTests := true, laidLooks := .later }
def WtypePutsCardSaid : Prop := Claim7.holds Tryd.pinned (.plain (OpenSpec.ofChange wtypePutsSpec)) wtypePutsCard

/-- THE TIED CARD OF 'dobbylaw05.WtypeBack'. -/
def wtypeBackCard : Claim7 := { stood := { row := wtypeBackRow, standIns := [], harness := (true, "fcf1235884862032841f8b0b17408dd3da3984c4711139cd5fd47707b07d6eaf"), looks := true }, kinds := [], alts := [], laidByText := true, laidKinds := [.data, .wider, .data, .wider], laidTests := true, laidLooks := .later }
def WtypeBackCardSaid : Prop := Claim7.holds Tryd.pinned (.plain (OpenSpec.ofChange wtypeBackSpec)) wtypeBackCard

/-- THE TIED CARD OF 'dobbylaw04.CursorPlaces'. -/
def cursorPlacesCard : Claim7 := { stood := { row := cursorPlacesRow, standIns := [], harness := (true, "fcf1235884862032841f8b0b17408dd3da3984c4711139cd5fd47707b07d6eaf"), looks := true }, kinds := [], alts := [], laidByText := true, laidKinds := [.data], laidTests := true, laidLooks := .later }
def CursorPlacesCardSaid : Prop := Claim7.holds Tryd.pinned (.plain (OpenSpec.ofChange cursorPlacesSpec)) cursorPlacesCard

/-- THE SECOND FORM's CARD OF 'dobbylaw14.NamesBack'. -/
def namesBackUptoCard : Claim7 := { stood := { row := namesBackUptoRow, standIns := [], harness := (true, "fcf1235884862032841f8b0b17408dd3da3984c4711139cd5fd47707b07d6eaf"), looks := true }, kinds := [], alts := [], laidByText := true, laidKinds := [.data, .data, .wider, .wider], laidTests := true, laidLooks := .later }
def NamesBackUptoCardSaid : Prop := Claim7.holds Tryd.pinned (.plain (OpenSpec.upto namesBackSpec)) namesBackUptoCard

/-- THE SECOND FORM's CARD OF 'dobbylaw05.WtypePuts'. -/
def wtypePutsUptoCard : Claim7 := { stood := { row := wtypePutsUptoRow, standIns := [], harness := (true, "fcf1235884862032841f8b0b17408dd3da3984c4711139cd5fd47707b07d6eaf"), looks := true }, kinds := [], alts := [], laidByText := true, laidKinds := [.wider], laidTests := true, laidLooks := .later }
def WtypePutsUptoCardSaid : Prop := Claim7.holds Tryd.pinned (.plain (OpenSpec.upto wtypePutsSpec)) wtypePutsUptoCard

/-- THE SECOND FORM's CARD OF 'dobbylaw05.WtypeBack'. -/
def wtypeBackUptoCard : Claim7 := { stood := { row := wtypeBackUptoRow, standIns := [], harness := (true, "fcf1235884862032841f8b0b17408dd3da3984c4711139cd5fd47707b07d6eaf"), looks := true }, kinds := [], alts := [], laidByText := true, laidKinds := [.data, .wider, .data, .wider], laidTests := true, laidLooks := .later }
def WtypeBackUptoCardSaid : Prop := Claim7.holds Tryd.pinned (.plain (OpenSpec.upto wtypeBackSpec)) wtypeBackUptoCard

/-- THE SECOND FORM's CARD OF 'dobbylaw04.CursorPlaces'. -/
def cursorPlacesUptoCard : Claim7 := { stood := { row := cursorPlacesUptoRow, standIns := [], harness := (true, "fcf1235884862032841f8b0b17408dd3da3984c4711139cd5fd47707b07d6eaf"), looks := true }, kinds := [], alts := [], laidByText := true, laidKinds := [.data], laidTests := true, laidLooks := .later }
def CursorPlacesUptoCardSaid : Prop := Claim7.holds Tryd.pinned (.plain (OpenSpec.upto cursorPlacesSpec)) cursorPlacesUptoCard
end Rows
end Go.Proofs.YtiohiiekaofkbaaDoor
