/-
  DERIVED. GIVEN WITH THE SEED: THE CARDS: each row of YtlpocahflolmpaaDoorRows.lean that lists a variable, with what it lists TIED to the program's text (the seventh form; the later family's looks); each row that meets fmt, with fmt's text TOLD by the authors' own Lean function (tested against real Go, not proved from fmt's source: count such statements apart). THE CARD IS WHAT COUNTS. Prove the row's statement (the work); the ties are given (YtlpocahflolmpaaDoorTie.lean); close each card by the builder's one call (the guide's Derived/Test/ToyasCard.lean, 'card_holds'). Laid BY PROGRAM, IN A SANDBOX (cutbox-door.mjs). By AI agents, Wed Nov 11 2026. No macro, syntax, notation, axiom, sorry.
-/
import Derived.Test.YtlpocahflolmpaaDoorRows
import GoSem.ClaimSeven
namespace Go.Proofs.YtlpocahflolmpaaDoor
namespace Rows

/-- THE TIED CARD OF 'dobbylaw02.SpanCounts'. -/
def spanCountsCard : Claim7 := { stood := { row := spanCountsRow, standIns := [], harness := (true, "1b6a43a16a9f9cd462b304886c01aae0e157d54aaff18af1319a937560da7f00"), looks := false }, kinds := [], alts := [], laidByText := true, laidKinds := [.data], laidTests := true, laidLooks := .later }
def SpanCountsCardSaid : Prop := Claim7.holds Tryd.pinned (.plain (OpenSpec.ofChange spanCountsSpec)) spanCountsCard

/-- THE TIED CARD OF 'dobbylaw02.SpanFits'. -/
def spanFitsCard : Claim7 := { stood := { row := spanFitsRow, standIns := [], harness := (true, "1b6a43a16a9f9cd462b304886c01aae0e157d54aaff18af1319a937560da7f00"), looks := false }, kinds := [], alts := [], laidByText := true, laidKinds := [.data], laidTests := true, laidLooks := .later }
def SpanFitsCardSaid : Prop := Claim7.holds Tryd.pinned (.plain (OpenSpec.ofChange spanFitsSpec)) spanFitsCard

/-- THE TIED CARD OF 'dobbylaw02.SpanDigits'. -/
def spanDigitsCard : Claim7 := { stood := { row := spanDigitsRow, standIns := [], harness := (true, "1b6a43a16a9f9cd462b304886c01aae0e157d54aaff18af1319a937560da7f00"), looks := false }, kinds := [], alts := [], laidByText := true, laidKinds := [.data], laidTests := true, laidLooks := .later }
def SpanDigitsCardSaid : Prop := Claim7.holds Tryd.pinned (.plain (OpenSpec.ofChange spanDigitsSpec)) spanDigitsCard

/-- THE TIED CARD OF 'dobbylaw02.SpanSizes'. -/
def spanSizesCard : Claim7 := { stood := { row := spanSizesRow, standIns := [], harness := (true, "1b6a43a16a9f9cd462b304886c01aae0e157d54aaff18af1319a937560da7f00"), looks := false }, kinds := [], alts := [], laidByText := true, laidKinds := [.data], laidTests := true, laidLooks := .later }
def SpanSizesCardSaid : Prop := Claim7.holds Tryd.pinned (.plain (OpenSpec.ofChange spanSizesSpec)) spanSizesCard

/-- THE TIED CARD OF 'dobbylaw02.SpanAdds'. -/
def spanAddsCard : Claim7 := { stood := { row := spanAddsRow, standIns := [], harness := (true, "1b6a43a16a9f9cd462b304886c01aae0e157d54aaff18af1319a937560da7f00"), looks := false }, kinds := [], alts := [], laidByText := true, laidKinds := [.data], laidTests := true, laidLooks := .later }
def SpanAddsCardSaid : Prop := Claim7.holds Tryd.pinned (.plain (OpenSpec.ofChange spanAddsSpec)) spanAddsCard

/-- THE SECOND FORM's CARD OF 'dobbylaw02.SpanCounts'. -/
def spanCountsUptoCard : Claim7 := { stood := { row := spanCountsUptoRow, standIns := [], harness := (true, "1b6a43a16a9f9cd462b304886c01aae0e157d54aaff18af1319a937560da7f00"), looks := false }, kinds := [], alts := [], laidByText := true, laidKinds := [.data], laidTests := true, laidLooks := .later }
def SpanCountsUptoCardSaid : Prop := Claim7.holds Tryd.pinned (.plain (OpenSpec.upto spanCountsSpec)) spanCountsUptoCard

/-- THE SECOND FORM's CARD OF 'dobbylaw02.SpanFits'. -/
def spanFitsUptoCard : Claim7 := { stood := { row := spanFitsUptoRow, standIns := [], harness := (true, "1b6a43a16a9f9cd462b304886c01aae0e157d54aaff18af1319a937560da7f00"), looks := false }, kinds := [], alts := [], laidByText := true, laidKinds := [.data], laidTests := true, laidLooks := .later }
def SpanFitsUptoCardSaid : Prop := Claim7.holds Tryd.pinned (.plain (OpenSpec.upto spanFitsSpec)) spanFitsUptoCard

/-- THE SECOND FORM's CARD OF 'dobbylaw02.SpanDigits'. -/
def spanDigitsUptoCard : Claim7 := { stood := { row := spanDigitsUptoRow, standIns := [], harness := (true, "1b6a43a16a9f9cd462b304886c01aae0e157d54aaff18af1319a937560da7f00"), looks := false }, kinds := [], alts := [], laidByText := true, laidKinds := [.data], laidTests := true, laidLooks := .later }
def SpanDigitsUptoCardSaid : Prop := Claim7.holds Tryd.pinned (.plain (OpenSpec.upto spanDigitsSpec)) spanDigitsUptoCard

/-- THE SECOND FORM's CARD OF 'dobbylaw02.SpanSizes'. -/
def spanSizesUptoCard : Claim7 := { stood := { row := spanSizesUptoRow, standIns := [], harness := (true, "1b6a43a16a9f9cd462b304886c01aae0e157d54aaff18af1319a937560da7f00"), looks := false }, kinds := [], alts := [], laidByText := true, laidKinds := [.data], laidTests := true, laidLooks := .later }
def SpanSizesUptoCardSaid : Prop := Claim7.holds Tryd.pinned (.plain (OpenSpec.upto spanSizesSpec)) spanSizesUptoCard

/-- THE SECOND FORM's CARD OF 'dobbylaw02.SpanAdds'. -/
def spanAddsUptoCard : Claim7 := { stood := { row := spanAddsUptoRow, standIns := [], harness := (true, "1b6a43a16a9f9cd462b304886c01aae0e157d54aaff18af1319a937560da7f00"), looks := false }, kinds := [], alts := [], laidByText := true, laidKinds := [.data], laidTests := true, laidLooks := .later }
def SpanAddsUptoCardSaid : Prop := Claim7.holds Tryd.pinned (.plain (OpenSpec.upto spanAddsSpec)) spanAddsUptoCard
end Rows
end Go.Proofs.YtlpocahflolmpaaDoor
