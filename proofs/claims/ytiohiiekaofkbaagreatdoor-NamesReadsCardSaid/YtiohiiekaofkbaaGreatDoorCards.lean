/-
  DERIVED. GIVEN WITH THE SEED: THE CARDS: each row of YtiohiiekaofkbaaGreatDoorRows.lean that lists a variable, with what it lists TIED to the program's text (the seventh form; the later family's looks); each row that meets fmt, with fmt's text TOLD by the authors' own Lean function (tested against real Go, not proved from fmt's source: count such statements apart). THE CARD IS WHAT COUNTS. Prove the row's statement (the work); the ties are given (YtiohiiekaofkbaaGreatDoorTie.lean); close each card by the builder's one call (the guide's Derived/Test/ToyasCard.lean, 'card_holds'). Laid BY PROGRAM, IN A SANDBOX (cutbox-door.mjs). By AI agents, Wed Nov 11 2026. No macro, syntax, notation, axiom, sorry.
-/
import Derived.Test.YtiohiiekaofkbaaGreatDoorRows
import GoSem.ClaimSeven
namespace Go.Proofs.YtiohiiekaofkbaaGreatDoor
namespace Rows

/-- THE TIED CARD OF 'dobbylaw14.NamesReads'. -/
def namesReadsCard : Claim7 := { stood := { row := namesReadsRow, standIns := [], harness := (true, "673ded226007a42ea84a25e72185befd25867f745fa8eb8a7c56cfe7f4772389"), looks := true }, kinds := [], alts := [], laidByText := true, laidKinds := [.data, .data, .wider, .wider], laidTests := true, laidLooks := .later }
def NamesReadsCardSaid : Prop := Claim7.holds Tryz.pinned (.plain (OpenSpec.ofChange namesReadsSpec)) namesReadsCard

/-- THE SECOND FORM's CARD OF 'dobbylaw14.NamesReads'. -/
def namesReadsUptoCard : Claim7 := { stood := { row := namesReadsUptoRow, standIns := [], harness := (true, "673ded226007a42ea84a25e72185befd25867f745fa8eb8a7c56cfe7f4772389"), looks := true }, kinds := [], alts := [], laidByText := true, laidKinds := [.data, .data, .wider, .wider], laidTests := true, laidLooks := .later }
def NamesReadsUptoCardSaid : Prop := Claim7.holds Tryz.pinned (.plain (OpenSpec.upto namesReadsSpec)) namesReadsUptoCard
end Rows
end Go.Proofs.YtiohiiekaofkbaaGreatDoor
