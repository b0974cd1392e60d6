/-
  DERIVED. GIVEN WITH THE SEED: THE CARDS: each row of YtikkmcchhddfoaaGreatDoorRows.lean that lists a variable, with what it lists TIED to the program's text (the seventh form; the later family's looks); each row that meets fmt, with fmt's text TOLD by the authors' own Lean function (tested against real Go, not proved from fmt's source: count such statements apart). THE CARD IS WHAT COUNTS. Prove the row's statement (the work); the ties are given (YtikkmcchhddfoaaGreatDoorTie.lean); close each card by the builder's one call (the guide's Derived/Test/ToyasCard.lean, 'card_holds'). Laid BY PROGRAM, IN A SANDBOX (cutbox-door.mjs). By AI agents, Wed Nov 11 2026. No macro, syntax, notation, axiom, sorry.
-/
import Derived.Test.YtikkmcchhddfoaaGreatDoorRows
import GoSem.ClaimSeven
namespace Go.Proofs.YtikkmcchhddfoaaGreatDoor
namespace Rows

/-- THE TIED CARD OF 'interleavelaw03.FormatProgramRoundTrip'. -/
def formatProgramRoundTripCard : Claim7 := { stood := { row := formatProgramRoundTripRow, standIns := [], harness := (true, "b34b5180b95067c9258d1d4d8d966f88722219a6d04fdffbdb4ebea9ee7838b8"), looks := true }, kinds := [], alts := [], laidByText := true, laidKinds := [.data, .data, .data, .data, .sentinel, .sentinel, .data, .data, .pinned], laidTests := true, laidLooks := .later }
def FormatProgramRoundTripCardSaid : Prop := Claim7.holds Tryz.pinned (.plain (OpenSpec.ofChange formatProgramRoundTripSpec)) formatProgramRoundTripCard

/-- THE TIED CARD OF 'interleavelaw03.FormatCanonical'. -/
def formatCanonicalCard : Claim7 := { stood := { row := formatCanonicalRow, standIns := [], harness := (true, "b34b5180b95067c9258d1d4d8d966f88722219a6d04fdffbdb4ebea9ee7838b8"), looks := true }, kinds := [], alts := [], laidByText := true, laidKinds := [.data, .data, .data, .data, .sentinel, .sentinel, .data, .data, .pinned], laidTests := true, laidLooks := .later }
def FormatCanonicalCardSaid : Prop := Claim7.holds Tryz.pinned (.plain (OpenSpec.ofChange formatCanonicalSpec)) formatCanonicalCard

/-- THE TIED CARD OF 'interleavelaw03.FormatNeeded'. -/
def formatNeededCard : Claim7 := { stood := { row := formatNeededRow, standIns := [], harness := (true, "b34b5180b95067c9258d1d4d8d966f88722219a6d04fdffbdb4ebea9ee7838b8"), looks := true }, kinds := [], alts := [], laidByText := true, laidKinds := [.data, .data, .data, .data, .sentinel, .sentinel, .data, .data, .pinned], laidTests := true, laidLooks := .later }
def FormatNeededCardSaid : Prop := Claim7.holds Tryz.pinned (.plain (OpenSpec.ofChange formatNeededSpec)) formatNeededCard

/-- THE TIED CARD OF 'interleavelaw40.BaselineSource'. -/
def baselineSourceCard : Claim7 := { stood := { row := baselineSourceRow, standIns := [], harness := (true, "b34b5180b95067c9258d1d4d8d966f88722219a6d04fdffbdb4ebea9ee7838b8"), looks := true }, kinds := [], alts := [], laidByText := true, laidKinds := [.data, .data, .data, .data, .sentinel, .sentinel, .data, .data, .pinned], laidTests := true, laidLooks := .later }
def BaselineSourceCardSaid : Prop := Claim7.holds Tryz.pinned (.plain (OpenSpec.ofChange baselineSourceSpec)) baselineSourceCard

/-- THE TIED CARD OF 'interleavelaw40.BaselineDecodes'. -/
def baselineDecodesCard : Claim7 := { stood := { row := baselineDecodesRow, standIns := [], harness := (true, "b34b5180b95067c9258d1d4d8d966f88722219a6d04fdffbdb4ebea9ee7838b8"), looks := true }, kinds := [], alts := [], laidByText := true, laidKinds := [.data, .data, .data, .data, .sentinel, .sentinel, .data, .data, .pinned], laidTests := true, laidLooks := .later }
def BaselineDecodesCardSaid : Prop := Claim7.holds Tryz.pinned (.plain (OpenSpec.ofChange baselineDecodesSpec)) baselineDecodesCard

/-- THE TIED CARD OF 'interleavelaw40.BaselineBytes'. -/
def baselineBytesCard : Claim7 := { stood := { row := baselineBytesRow, standIns := [], harness := (true, "b34b5180b95067c9258d1d4d8d966f88722219a6d04fdffbdb4ebea9ee7838b8"), looks := true }, kinds := [], alts := [], laidByText := true, laidKinds := [.data, .data, .data, .data, .sentinel, .sentinel, .data, .data, .pinned], laidTests := true, laidLooks := .later }
def BaselineBytesCardSaid : Prop := Claim7.holds Tryz.pinned (.plain (OpenSpec.ofChange baselineBytesSpec)) baselineBytesCard

/-- THE TIED CARD OF 'interleavelaw40.BaselineTexts'. -/
def baselineTextsCard : Claim7 := { stood := { row := baselineTextsRow, standIns := [], harness := (true, "b34b5180b95067c9258d1d4d8d966f88722219a6d04fdffbdb4ebea9ee7838b8"), looks := true }, kinds := [], alts := [], laidByText := true, laidKinds := [.data, .data, .data, .data, .sentinel, .sentinel, .data, .data, .pinned], laidTests := true, laidLooks := .later }
def BaselineTextsCardSaid : Prop := Claim7.holds Tryz.pinned (.plain (OpenSpec.ofChange baselineTextsSpec)) baselineTextsCard

/-- THE TIED CARD OF 'interleavelaw40.BaselineRoundTrips'. -/
def baselineRoundTripsCard : Claim7 := { stood := { row := baselineRoundTripsRow, standIns := [], harness := (true, "b34b5180b95067c9258d1d4d8d966f88722219a6d04fdffbdb4ebea9ee7838b8"), looks := true }, kinds := [], alts := [], laidByText := true, laidKinds := [.data, .data, .data, .data, .sentinel, .sentinel, .data, .data, .pinned], laidTests := true, laidLooks := .later }
def BaselineRoundTripsCardSaid : Prop := Claim7.holds Tryz.pinned (.plain (OpenSpec.ofChange baselineRoundTripsSpec)) baselineRoundTripsCard

/-- THE SECOND FORM's CARD OF 'interleavelaw03.FormatProgramRoundTrip'. -/
def formatProgramRoundTripUptoCard : Claim7 := { stood := { row := formatProgramRoundTripUptoRow, standIns := [], harness := (true, "b34b5180b95067c9258d1d4d8d966f88722219a6d04fdffbdb4ebea9ee7838b8"), looks := true }, kinds := [], alts := [], laidByText := true, laidKinds := [.data, .data, .data, .data, .sentinel, .sentinel, .data, .data, .pinned], laidTests := true, laidLooks := .later }
def FormatProgramRoundTripUptoCardSaid : Prop := Claim7.holds Tryz.pinned (.plain (OpenSpec.upto formatProgramRoundTripSpec)) formatProgramRoundTripUptoCard

/-- THE SECOND FORM's CARD OF 'interleavelaw03.FormatCanonical'. -/
def formatCanonicalUptoCard : Claim7 := { stood := { row := formatCanonicalUptoRow, standIns := [], harness := (true, "b34b5180b95067c9258d1d4d8d966f88722219a6d04fdffbdb4ebea9ee7838b8"), looks := true }, kinds := [], alts := [], laidByText := true, laidKinds := [.data, .data, .data, .data, .sentinel, .sentinel, .data, .data, .pinned], laidTests := true, laidLooks := .later }
def FormatCanonicalUptoCardSaid : Prop := Claim7.holds Tryz.pinned (.plain (OpenSpec.upto formatCanonicalSpec)) formatCanonicalUptoCard

/-- THE SECOND FORM's CARD OF 'interleavelaw03.FormatNeeded'. -/
def formatNeededUptoCard : Claim7 := { stood := { row := formatNeededUptoRow, standIns := [], harness := (true, "b34b5180b95067c9258d1d4d8d966f88722219a6d04fdffbdb4ebea9ee7838b8"), looks := true }, kinds := [], alts := [], laidByText := true, laidKinds := [.data, .data, .data, .data, .sentinel, .sentinel, .data, .data, .pinned], laidTests := true, laidLooks := .later }
def FormatNeededUptoCardSaid : Prop := Claim7.holds Tryz.pinned (.plain (OpenSpec.upto formatNeededSpec)) formatNeededUptoCard

/-- THE SECOND FORM's CARD OF 'interleavelaw40.BaselineSource'. -/
def baselineSourceUptoCard : Claim7 := { stood := { row := baselineSourceUptoRow, standIns := [], harness := (true, "b34b5180b95067c9258d1d4d8d966f88722219a6d04fdffbdb4ebea9ee7838b8"), looks := true }, kinds := [], alts := [], laidByText := true, laidKinds := [.data, .data, .data, .data, .sentinel, .sentinel, .data, .data, .pinned], laidTests := true, laidLooks := .later }
def BaselineSourceUptoCardSaid : Prop := Claim7.holds Tryz.pinned (.plain (OpenSpec.upto baselineSourceSpec)) baselineSourceUptoCard

/-- THE SECOND FORM's CARD OF 'interleavelaw40.BaselineDecodes'. -/
def baselineDecodesUptoCard : Claim7 := { stood := { row := baselineDecodesUptoRow, standIns := [], harness := (true, "b34b5180b95067c9258d1d4d8d966f88722219a6d04fdffbdb4ebea9ee7838b8"), looks := true }, kinds := [], alts := [], laidByText := true, laidKinds := [.data, .data, .data, .data, .sentinel, .sentinel, .data, .data, .pinned], laidTests := true, laidLooks := .later }
def BaselineDecodesUptoCardSaid : Prop := Claim7.holds Tryz.pinned (.plain (OpenSpec.upto baselineDecodesSpec)) baselineDecodesUptoCard

/-- THE SECOND FORM's CARD OF 'interleavelaw40.BaselineBytes'. -/
def baselineBytesUptoCard : Claim7 := { stood := { row := baselineBytesUptoRow, standIns := [], harness := (true, "b34b5180b95067c9258d1d4d8d966f88722219a6d04fdffbdb4ebea9ee7838b8"), looks := true }, kinds := [], alts := [], laidByText := true, laidKinds := [.data, .data, .data, .data, .sentinel, .sentinel, .data, .data, .pinned], laidTests := true, laidLooks := .later }
def BaselineBytesUptoCardSaid : Prop := Claim7.holds Tryz.pinned (.plain (OpenSpec.upto baselineBytesSpec)) baselineBytesUptoCard

/-- THE SECOND FORM's CARD OF 'interleavelaw40.BaselineTexts'. -/
def baselineTextsUptoCard : Claim7 := { stood := { row := baselineTextsUptoRow, standIns := [], harness := (true, "b34b5180b95067c9258d1d4d8d966f88722219a6d04fdffbdb4ebea9ee7838b8"), looks := true }, kinds := [], alts := [], laidByText := true, laidKinds := [.data, .data, .data, .data, .sentinel, .sentinel, .data, .data, .pinned], laidTests := true, laidLooks := .later }
def BaselineTextsUptoCardSaid : Prop := Claim7.holds Tryz.pinned (.plain (OpenSpec.upto baselineTextsSpec)) baselineTextsUptoCard

/-- THE SECOND FORM's CARD OF 'interleavelaw40.BaselineRoundTrips'. -/
def baselineRoundTripsUptoCard : Claim7 := { stood := { row := baselineRoundTripsUptoRow, standIns := [], harness := (true, "b34b5180b95067c9258d1d4d8d966f88722219a6d04fdffbdb4ebea9ee7838b8"), looks := true }, kinds := [], alts := [], laidByText := true, laidKinds := [.data, .data, .data, .data, .sentinel, .sentinel, .data, .data, .pinned], laidTests := true, laidLooks := .later }
def BaselineRoundTripsUptoCardSaid : Prop := Claim7.holds Tryz.pinned (.plain (OpenSpec.upto baselineRoundTripsSpec)) baselineRoundTripsUptoCard
end Rows
end Go.Proofs.YtikkmcchhddfoaaGreatDoor
