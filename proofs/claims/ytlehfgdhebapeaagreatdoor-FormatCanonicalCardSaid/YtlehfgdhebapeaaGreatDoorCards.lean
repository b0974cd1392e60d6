/-
  DERIVED. GIVEN WITH THE SEED: THE CARDS: each row of YtlehfgdhebapeaaGreatDoorRows.lean that lists a variable, with what it lists TIED to the program's text (the seventh form; the later family's looks); each row that meets fmt, with fmt's text TOLD by the authors' own Lean function (tested against real Go, not proved from fmt's source: count such statements apart). THE CARD IS WHAT COUNTS. Prove the row's statement (the work); the ties are given (YtlehfgdhebapeaaGreatDoorTie.lean); close each card by the builder's one call (the guide's Derived/Test/ToyasCard.lean, 'card_holds'). Laid BY PROGRAM, IN A SANDBOX (cutbox-door.mjs). By AI agents, Wed Nov 11 2026. No macro, syntax, notation, axiom, sorry.
-/
import Derived.Test.YtlehfgdhebapeaaGreatDoorRows
import GoSem.ClaimSeven
namespace Go.Proofs.YtlehfgdhebapeaaGreatDoor
namespace Rows

/-- THE TIED CARD OF 'interleavelaw03.FormatProgramRoundTrip'. -/
def formatProgramRoundTripCard : Claim7 := { stood := { row := formatProgramRoundTripRow, standIns := [], harness := (true, "24cfd6110c58d01de9d507b3b5a3b92326a4632a9a4d7e7e53d568bcebcd5d4d"), looks := true }, kinds := [], alts := [], laidByText := true, laidKinds := [.data, .data, .data, .data, .sentinel, .sentinel, .data, .data, .pinned], laidTests := true, laidLooks := .later }
def FormatProgramRoundTripCardSaid : Prop := Claim7.holds Tryz.pinned (.plain (OpenSpec.ofChange formatProgramRoundTripSpec)) formatProgramRoundTripCard

/-- THE TIED CARD OF 'interleavelaw03.FormatCanonical'. -/
def formatCanonicalCard : Claim7 := { stood := { row := formatCanonicalRow, standIns := [], harness := (true, "24cfd6110c58d01de9d507b3b5a3b92326a4632a9a4d7e7e53d568bcebcd5d4d"), looks := true }, kinds := [], alts := [], laidByText := true, laidKinds := [.data, .data, .data, .data, .sentinel, .sentinel, .data, .data, .pinned], laidTests := true, laidLooks := .later }
def FormatCanonicalCardSaid : Prop := Claim7.holds Tryz.pinned (.plain (OpenSpec.ofChange formatCanonicalSpec)) formatCanonicalCard

/-- THE TIED CARD OF 'interleavelaw03.FormatNeeded'. -/
def formatNeededCard : Claim7 := { stood := { row := formatNeededRow, standIns := [], harness := (true, "24cfd6110c58d01de9d507b3b5a3b92326a4632a9a4d7e7e53d568bcebcd5d4d"), looks := true }, kinds := [], alts := [], laidByText := true, laidKinds := [.data, .data, .data, .data, .sentinel, .sentinel, .data, .data, .pinned], laidTests := true, laidLooks := .later }
def FormatNeededCardSaid : Prop := Claim7.holds Tryz.pinned (.plain (OpenSpec.ofChange formatNeededSpec)) formatNeededCard

/-- THE TIED CARD OF 'interleavelaw40.BaselineSource'. -/
def baselineSourceCard : Claim7 := { stood := { row := baselineSourceRow, standIns := [], harness := (true, "24cfd6110c58d01de9d507b3b5a3b92326a4632a9a4d7e7e53d568bcebcd5d4d"), looks := true }, kinds := [], alts := [], laidByText := true, laidKinds := [.data, .data, .data, .data, .sentinel, .sentinel, .data, .data, .pinned], laidTests := true, laidLooks := .later }
def BaselineSourceCardSaid : Prop := Claim7.holds Tryz.pinned (.plain (OpenSpec.ofChange baselineSourceSpec)) baselineSourceCard

/-- THE TIED CARD OF 'interleavelaw40.BaselineParses'. -/
def baselineParsesCard : Claim7 := { stood := { row := baselineParsesRow, standIns := [], harness := (true, "24cfd6110c58d01de9d507b3b5a3b92326a4632a9a4d7e7e53d568bcebcd5d4d"), looks := true }, kinds := [], alts := [], laidByText := true, laidKinds := [.data, .data, .data, .data, .sentinel, .sentinel, .data, .data, .pinned], laidTests := true, laidLooks := .later }
def BaselineParsesCardSaid : Prop := Claim7.holds Tryz.pinned (.plain (OpenSpec.ofChange baselineParsesSpec)) baselineParsesCard

/-- THE SECOND FORM's CARD OF 'interleavelaw03.FormatProgramRoundTrip'. -/
def formatProgramRoundTripUptoCard : Claim7 := { stood := { row := formatProgramRoundTripUptoRow, standIns := [], harness := (true, "24cfd6110c58d01de9d507b3b5a3b92326a4632a9a4d7e7e53d568bcebcd5d4d"), looks := true }, kinds := [], alts := [], laidByText := true, laidKinds := [.data, .data, .data, .data, .sentinel, .sentinel, .data, .data, .pinned], laidTests := true, laidLooks := .later }
def FormatProgramRoundTripUptoCardSaid : Prop := Claim7.holds Tryz.pinned (.plain (OpenSpec.upto formatProgramRoundTripSpec)) formatProgramRoundTripUptoCard

/-- THE SECOND FORM's CARD OF 'interleavelaw03.FormatCanonical'. -/
def formatCanonicalUptoCard : Claim7 := { stood := { row := formatCanonicalUptoRow, standIns := [], harness := (true, "24cfd6110c58d01de9d507b3b5a3b92326a4632a9a4d7e7e53d568bcebcd5d4d"), looks := true }, kinds := [], alts := [], laidByText := true, laidKinds := [.data, .data, .data, .data, .sentinel, .sentinel, .data, .data, .pinned], laidTests := true, laidLooks := .later }
def FormatCanonicalUptoCardSaid : Prop := Claim7.holds Tryz.pinned (.plain (OpenSpec.upto formatCanonicalSpec)) formatCanonicalUptoCard

/-- THE SECOND FORM's CARD OF 'interleavelaw03.FormatNeeded'. -/
def formatNeededUptoCard : Claim7 := { stood := { row := formatNeededUptoRow, standIns := [], harness := (true, "24cfd6110c58d01de9d507b3b5a3b92326a4632a9a4d7e7e53d568bcebcd5d4d"), looks := true }, kinds := [], alts := [], laidByText := true, laidKinds := [.data, .data, .data, .data, .sentinel, .sentinel, .data, .data, .pinned], laidTests := true, laidLooks := .later }
def FormatNeededUptoCardSaid : Prop := Claim7.holds Tryz.pinned (.plain (OpenSpec.upto formatNeededSpec)) formatNeededUptoCard

/-- THE SECOND FORM's CARD OF 'interleavelaw40.BaselineSource'. -/
def baselineSourceUptoCard : Claim7 := { stood := { row := baselineSourceUptoRow, standIns := [], harness := (true, "24cfd6110c58d01de9d507b3b5a3b92326a4632a9a4d7e7e53d568bcebcd5d4d"), looks := true }, kinds := [], alts := [], laidByText := true, laidKinds := [.data, .data, .data, .data, .sentinel, .sentinel, .data, .data, .pinned], laidTests := true, laidLooks := .later }
def BaselineSourceUptoCardSaid : Prop := Claim7.holds Tryz.pinned (.plain (OpenSpec.upto baselineSourceSpec)) baselineSourceUptoCard

/-- THE SECOND FORM's CARD OF 'interleavelaw40.BaselineParses'. -/
def baselineParsesUptoCard : Claim7 := { stood := { row := baselineParsesUptoRow, standIns := [], harness := (true, "24cfd6110c58d01de9d507b3b5a3b92326a4632a9a4d7e7e53d568bcebcd5d4d"), looks := true }, kinds := [], alts := [], laidByText := true, laidKinds := [.data, .data, .data, .data, .sentinel, .sentinel, .data, .data, .pinned], laidTests := true, laidLooks := .later }
def BaselineParsesUptoCardSaid : Prop := Claim7.holds Tryz.pinned (.plain (OpenSpec.upto baselineParsesSpec)) baselineParsesUptoCard
end Rows
end Go.Proofs.YtlehfgdhebapeaaGreatDoor
