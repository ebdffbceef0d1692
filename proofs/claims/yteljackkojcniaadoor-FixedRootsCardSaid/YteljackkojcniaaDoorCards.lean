/-
  DERIVED. GIVEN WITH THE SEED: THE CARDS: each row of YteljackkojcniaaDoorRows.lean that lists a variable, with what it lists TIED to the program's text (the seventh form; the later family's looks); each row that meets fmt, with fmt's text TOLD by the authors' own Lean function (tested against real Go, not proved from fmt's source: count such statements apart). THE CARD IS WHAT COUNTS. Prove the row's statement (the work); the ties are given (YteljackkojcniaaDoorTie.lean); close each card by the builder's one call (the guide's Derived/Test/ToyasCard.lean, 'card_holds'). Laid BY PROGRAM, IN A SANDBOX (cutbox-door.mjs). By AI agents, Wed Nov 11 2026. No macro, syntax, notation, axiom, sorry.
-/
import Derived.Test.YteljackkojcniaaDoorRows
import GoSem.ClaimSeven
namespace Go.Proofs.YteljackkojcniaaDoor
namespace Rows

/-- THE TIED CARD OF 'cnclaw02.FixedParse'. -/
def fixedParseCard : Claim7 := { stood := { row := fixedParseRow, standIns := [], harness := (true, "6d85bab04de4b6912006556b8296ba539102ef065beb8ad22a15929a4f6bef53"), looks := false }, kinds := [], alts := [], laidByText := true, laidKinds := [.data, .data, .data], laidTests := true, laidLooks := .later }
def FixedParseCardSaid : Prop := Claim7.holds Tryd.pinned (.plain (OpenSpec.ofChange fixedParseSpec)) fixedParseCard

/-- THE TIED CARD OF 'cnclaw02.FixedFormat'. -/
def fixedFormatCard : Claim7 := { stood := { row := fixedFormatRow, standIns := [], harness := (true, "6d85bab04de4b6912006556b8296ba539102ef065beb8ad22a15929a4f6bef53"), looks := false }, kinds := [], alts := [], laidByText := true, laidKinds := [.data, .data, .data], laidTests := true, laidLooks := .later }
def FixedFormatCardSaid : Prop := Claim7.holds Tryd.pinned (.plain (OpenSpec.ofChange fixedFormatSpec)) fixedFormatCard

/-- THE TIED CARD OF 'cnclaw02.FixedLength'. -/
def fixedLengthCard : Claim7 := { stood := { row := fixedLengthRow, standIns := [], harness := (true, "6d85bab04de4b6912006556b8296ba539102ef065beb8ad22a15929a4f6bef53"), looks := false }, kinds := [], alts := [], laidByText := true, laidKinds := [.data, .data, .data], laidTests := true, laidLooks := .later }
def FixedLengthCardSaid : Prop := Claim7.holds Tryd.pinned (.plain (OpenSpec.ofChange fixedLengthSpec)) fixedLengthCard

/-- THE TIED CARD OF 'cnclaw02.FixedRoundTrip'. -/
def fixedRoundTripCard : Claim7 := { stood := { row := fixedRoundTripRow, standIns := [], harness := (true, "6d85bab04de4b6912006556b8296ba539102ef065beb8ad22a15929a4f6bef53"), looks := false }, kinds := [], alts := [], laidByText := true, laidKinds := [.data, .data, .data], laidTests := true, laidLooks := .later }
def FixedRoundTripCardSaid : Prop := Claim7.holds Tryd.pinned (.plain (OpenSpec.ofChange fixedRoundTripSpec)) fixedRoundTripCard

/-- THE TIED CARD OF 'cnclaw02.FixedTexts'. -/
def fixedTextsCard : Claim7 := { stood := { row := fixedTextsRow, standIns := [], harness := (true, "6d85bab04de4b6912006556b8296ba539102ef065beb8ad22a15929a4f6bef53"), looks := false }, kinds := [], alts := [], laidByText := true, laidKinds := [.data, .data, .data], laidTests := true, laidLooks := .later }
def FixedTextsCardSaid : Prop := Claim7.holds Tryd.pinned (.plain (OpenSpec.ofChange fixedTextsSpec)) fixedTextsCard

/-- THE TIED CARD OF 'cnclaw02.FixedRemainders'. -/
def fixedRemaindersCard : Claim7 := { stood := { row := fixedRemaindersRow, standIns := [], harness := (true, "6d85bab04de4b6912006556b8296ba539102ef065beb8ad22a15929a4f6bef53"), looks := false }, kinds := [], alts := [], laidByText := true, laidKinds := [.data, .data, .data], laidTests := true, laidLooks := .later }
def FixedRemaindersCardSaid : Prop := Claim7.holds Tryd.pinned (.plain (OpenSpec.ofChange fixedRemaindersSpec)) fixedRemaindersCard

/-- THE TIED CARD OF 'cnclaw02.FixedUnits'. -/
def fixedUnitsCard : Claim7 := { stood := { row := fixedUnitsRow, standIns := [], harness := (true, "6d85bab04de4b6912006556b8296ba539102ef065beb8ad22a15929a4f6bef53"), looks := false }, kinds := [], alts := [], laidByText := true, laidKinds := [.data, .data, .data], laidTests := true, laidLooks := .later }
def FixedUnitsCardSaid : Prop := Claim7.holds Tryd.pinned (.plain (OpenSpec.ofChange fixedUnitsSpec)) fixedUnitsCard

/-- THE TIED CARD OF 'cnclaw02.FixedSums'. -/
def fixedSumsCard : Claim7 := { stood := { row := fixedSumsRow, standIns := [], harness := (true, "6d85bab04de4b6912006556b8296ba539102ef065beb8ad22a15929a4f6bef53"), looks := false }, kinds := [], alts := [], laidByText := true, laidKinds := [.data, .data, .data], laidTests := true, laidLooks := .later }
def FixedSumsCardSaid : Prop := Claim7.holds Tryd.pinned (.plain (OpenSpec.ofChange fixedSumsSpec)) fixedSumsCard

/-- THE TIED CARD OF 'cnclaw02.FixedGroup'. -/
def fixedGroupCard : Claim7 := { stood := { row := fixedGroupRow, standIns := [], harness := (true, "6d85bab04de4b6912006556b8296ba539102ef065beb8ad22a15929a4f6bef53"), looks := false }, kinds := [], alts := [], laidByText := true, laidKinds := [.data, .data, .data], laidTests := true, laidLooks := .later }
def FixedGroupCardSaid : Prop := Claim7.holds Tryd.pinned (.plain (OpenSpec.ofChange fixedGroupSpec)) fixedGroupCard

/-- THE TIED CARD OF 'cnclaw02.FixedProducts'. -/
def fixedProductsCard : Claim7 := { stood := { row := fixedProductsRow, standIns := [], harness := (true, "6d85bab04de4b6912006556b8296ba539102ef065beb8ad22a15929a4f6bef53"), looks := false }, kinds := [], alts := [], laidByText := true, laidKinds := [.data, .data, .data], laidTests := true, laidLooks := .later }
def FixedProductsCardSaid : Prop := Claim7.holds Tryd.pinned (.plain (OpenSpec.ofChange fixedProductsSpec)) fixedProductsCard

/-- THE TIED CARD OF 'cnclaw02.FixedDivides'. -/
def fixedDividesCard : Claim7 := { stood := { row := fixedDividesRow, standIns := [], harness := (true, "6d85bab04de4b6912006556b8296ba539102ef065beb8ad22a15929a4f6bef53"), looks := false }, kinds := [], alts := [], laidByText := true, laidKinds := [.data, .data, .data], laidTests := true, laidLooks := .later }
def FixedDividesCardSaid : Prop := Claim7.holds Tryd.pinned (.plain (OpenSpec.ofChange fixedDividesSpec)) fixedDividesCard

/-- THE TIED CARD OF 'cnclaw02.FixedIntegers'. -/
def fixedIntegersCard : Claim7 := { stood := { row := fixedIntegersRow, standIns := [], harness := (true, "6d85bab04de4b6912006556b8296ba539102ef065beb8ad22a15929a4f6bef53"), looks := false }, kinds := [], alts := [], laidByText := true, laidKinds := [.data, .data, .data], laidTests := true, laidLooks := .later }
def FixedIntegersCardSaid : Prop := Claim7.holds Tryd.pinned (.plain (OpenSpec.ofChange fixedIntegersSpec)) fixedIntegersCard

/-- THE TIED CARD OF 'cnclaw02.FixedSquares'. -/
def fixedSquaresCard : Claim7 := { stood := { row := fixedSquaresRow, standIns := [], harness := (true, "6d85bab04de4b6912006556b8296ba539102ef065beb8ad22a15929a4f6bef53"), looks := false }, kinds := [], alts := [], laidByText := true, laidKinds := [.data, .data, .data], laidTests := true, laidLooks := .later }
def FixedSquaresCardSaid : Prop := Claim7.holds Tryd.pinned (.plain (OpenSpec.ofChange fixedSquaresSpec)) fixedSquaresCard

/-- THE TIED CARD OF 'cnclaw02.FixedRoots'. -/
def fixedRootsCard : Claim7 := { stood := { row := fixedRootsRow, standIns := [], harness := (true, "6d85bab04de4b6912006556b8296ba539102ef065beb8ad22a15929a4f6bef53"), looks := false }, kinds := [], alts := [], laidByText := true, laidKinds := [.data, .data, .data], laidTests := true, laidLooks := .later }
def FixedRootsCardSaid : Prop := Claim7.holds Tryd.pinned (.plain (OpenSpec.ofChange fixedRootsSpec)) fixedRootsCard

/-- THE SECOND FORM's CARD OF 'cnclaw02.FixedParse'. -/
def fixedParseUptoCard : Claim7 := { stood := { row := fixedParseUptoRow, standIns := [], harness := (true, "6d85bab04de4b6912006556b8296ba539102ef065beb8ad22a15929a4f6bef53"), looks := false }, kinds := [], alts := [], laidByText := true, laidKinds := [.data, .data, .data], laidTests := true, laidLooks := .later }
def FixedParseUptoCardSaid : Prop := Claim7.holds Tryd.pinned (.plain (OpenSpec.upto fixedParseSpec)) fixedParseUptoCard

/-- THE SECOND FORM's CARD OF 'cnclaw02.FixedFormat'. -/
def fixedFormatUptoCard : Claim7 := { stood := { row := fixedFormatUptoRow, standIns := [], harness := (true, "6d85bab04de4b6912006556b8296ba539102ef065beb8ad22a15929a4f6bef53"), looks := false }, kinds := [], alts := [], laidByText := true, laidKinds := [.data, .data, .data], laidTests := true, laidLooks := .later }
def FixedFormatUptoCardSaid : Prop := Claim7.holds Tryd.pinned (.plain (OpenSpec.upto fixedFormatSpec)) fixedFormatUptoCard

/-- THE SECOND FORM's CARD OF 'cnclaw02.FixedLength'. -/
def fixedLengthUptoCard : Claim7 := { stood := { row := fixedLengthUptoRow, standIns := [], harness := (true, "6d85bab04de4b6912006556b8296ba539102ef065beb8ad22a15929a4f6bef53"), looks := false }, kinds := [], alts := [], laidByText := true, laidKinds := [.data, .data, .data], laidTests := true, laidLooks := .later }
def FixedLengthUptoCardSaid : Prop := Claim7.holds Tryd.pinned (.plain (OpenSpec.upto fixedLengthSpec)) fixedLengthUptoCard

/-- THE SECOND FORM's CARD OF 'cnclaw02.FixedRoundTrip'. -/
def fixedRoundTripUptoCard : Claim7 := { stood := { row := fixedRoundTripUptoRow, standIns := [], harness := (true, "6d85bab04de4b6912006556b8296ba539102ef065beb8ad22a15929a4f6bef53"), looks := false }, kinds := [], alts := [], laidByText := true, laidKinds := [.data, .data, .data], laidTests := true, laidLooks := .later }
def FixedRoundTripUptoCardSaid : Prop := Claim7.holds Tryd.pinned (.plain (OpenSpec.upto fixedRoundTripSpec)) fixedRoundTripUptoCard

/-- THE SECOND FORM's CARD OF 'cnclaw02.FixedTexts'. -/
def fixedTextsUptoCard : Claim7 := { stood := { row := fixedTextsUptoRow, standIns := [], harness := (true, "6d85bab04de4b6912006556b8296ba539102ef065beb8ad22a15929a4f6bef53"), looks := false }, kinds := [], alts := [], laidByText := true, laidKinds := [.data, .data, .data], laidTests := true, laidLooks := .later }
def FixedTextsUptoCardSaid : Prop := Claim7.holds Tryd.pinned (.plain (OpenSpec.upto fixedTextsSpec)) fixedTextsUptoCard

/-- THE SECOND FORM's CARD OF 'cnclaw02.FixedRemainders'. -/
def fixedRemaindersUptoCard : Claim7 := { stood := { row := fixedRemaindersUptoRow, standIns := [], harness := (true, "6d85bab04de4b6912006556b8296ba539102ef065beb8ad22a15929a4f6bef53"), looks := false }, kinds := [], alts := [], laidByText := true, laidKinds := [.data, .data, .data], laidTests := true, laidLooks := .later }
def FixedRemaindersUptoCardSaid : Prop := Claim7.holds Tryd.pinned (.plain (OpenSpec.upto fixedRemaindersSpec)) fixedRemaindersUptoCard

/-- THE SECOND FORM's CARD OF 'cnclaw02.FixedUnits'. -/
def fixedUnitsUptoCard : Claim7 := { stood := { row := fixedUnitsUptoRow, standIns := [], harness := (true, "6d85bab04de4b6912006556b8296ba539102ef065beb8ad22a15929a4f6bef53"), looks := false }, kinds := [], alts := [], laidByText := true, laidKinds := [.data, .data, .data], laidTests := true, laidLooks := .later }
def FixedUnitsUptoCardSaid : Prop := Claim7.holds Tryd.pinned (.plain (OpenSpec.upto fixedUnitsSpec)) fixedUnitsUptoCard

/-- THE SECOND FORM's CARD OF 'cnclaw02.FixedSums'. -/
def fixedSumsUptoCard : Claim7 := { stood := { row := fixedSumsUptoRow, standIns := [], harness := (true, "6d85bab04de4b6912006556b8296ba539102ef065beb8ad22a15929a4f6bef53"), looks := false }, kinds := [], alts := [], laidByText := true, laidKinds := [.data, .data, .data], laidTests := true, laidLooks := .later }
def FixedSumsUptoCardSaid : Prop := Claim7.holds Tryd.pinned (.plain (OpenSpec.upto fixedSumsSpec)) fixedSumsUptoCard

/-- THE SECOND FORM's CARD OF 'cnclaw02.FixedGroup'. -/
def fixedGroupUptoCard : Claim7 := { stood := { row := fixedGroupUptoRow, standIns := [], harness := (true, "6d85bab04de4b6912006556b8296ba539102ef065beb8ad22a15929a4f6bef53"), looks := false }, kinds := [], alts := [], laidByText := true, laidKinds := [.data, .data, .data], laidTests := true, laidLooks := .later }
def FixedGroupUptoCardSaid : Prop := Claim7.holds Tryd.pinned (.plain (OpenSpec.upto fixedGroupSpec)) fixedGroupUptoCard

/-- THE SECOND FORM's CARD OF 'cnclaw02.FixedProducts'. -/
def fixedProductsUptoCard : Claim7 := { stood := { row := fixedProductsUptoRow, standIns := [], harness := (true, "6d85bab04de4b6912006556b8296ba539102ef065beb8ad22a15929a4f6bef53"), looks := false }, kinds := [], alts := [], laidByText := true, laidKinds := [.data, .data, .data], laidTests := true, laidLooks := .later }
def FixedProductsUptoCardSaid : Prop := Claim7.holds Tryd.pinned (.plain (OpenSpec.upto fixedProductsSpec)) fixedProductsUptoCard

/-- THE SECOND FORM's CARD OF 'cnclaw02.FixedDivides'. -/
def fixedDividesUptoCard : Claim7 := { stood := { row := fixedDividesUptoRow, standIns := [], harness := (true, "6d85bab04de4b6912006556b8296ba539102ef065beb8ad22a15929a4f6bef53"), looks := false }, kinds := [], alts := [], laidByText := true, laidKinds := [.data, .data, .data], laidTests := true, laidLooks := .later }
def FixedDividesUptoCardSaid : Prop := Claim7.holds Tryd.pinned (.plain (OpenSpec.upto fixedDividesSpec)) fixedDividesUptoCard

/-- THE SECOND FORM's CARD OF 'cnclaw02.FixedIntegers'. -/
def fixedIntegersUptoCard : Claim7 := { stood := { row := fixedIntegersUptoRow, standIns := [], harness := (true, "6d85bab04de4b6912006556b8296ba539102ef065beb8ad22a15929a4f6bef53"), looks := false }, kinds := [], alts := [], laidByText := true, laidKinds := [.data, .data, .data], laidTests := true, laidLooks := .later }
def FixedIntegersUptoCardSaid : Prop := Claim7.holds Tryd.pinned (.plain (OpenSpec.upto fixedIntegersSpec)) fixedIntegersUptoCard

/-- THE SECOND FORM's CARD OF 'cnclaw02.FixedSquares'. -/
def fixedSquaresUptoCard : Claim7 := { stood := { row := fixedSquaresUptoRow, standIns := [], harness := (true, "6d85bab04de4b6912006556b8296ba539102ef065beb8ad22a15929a4f6bef53"), looks := false }, kinds := [], alts := [], laidByText := true, laidKinds := [.data, .data, .data], laidTests := true, laidLooks := .later }
def FixedSquaresUptoCardSaid : Prop := Claim7.holds Tryd.pinned (.plain (OpenSpec.upto fixedSquaresSpec)) fixedSquaresUptoCard

/-- THE SECOND FORM's CARD OF 'cnclaw02.FixedRoots'. -/
def fixedRootsUptoCard : Claim7 := { stood := { row := fixedRootsUptoRow, standIns := [], harness := (true, "6d85bab04de4b6912006556b8296ba539102ef065beb8ad22a15929a4f6bef53"), looks := false }, kinds := [], alts := [], laidByText := true, laidKinds := [.data, .data, .data], laidTests := true, laidLooks := .later }
def FixedRootsUptoCardSaid : Prop := Claim7.holds Tryd.pinned (.plain (OpenSpec.upto fixedRootsSpec)) fixedRootsUptoCard
end Rows
end Go.Proofs.YteljackkojcniaaDoor
