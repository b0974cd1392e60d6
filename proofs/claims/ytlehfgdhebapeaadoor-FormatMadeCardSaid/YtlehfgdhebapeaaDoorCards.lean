/-
  DERIVED. GIVEN WITH THE SEED: THE CARDS: each row of YtlehfgdhebapeaaDoorRows.lean that lists a variable, with what it lists TIED to the program's text (the seventh form; the later family's looks); each row that meets fmt, with fmt's text TOLD by the authors' own Lean function (tested against real Go, not proved from fmt's source: count such statements apart). THE CARD IS WHAT COUNTS. Prove the row's statement (the work); the ties are given (YtlehfgdhebapeaaDoorTie.lean); close each card by the builder's one call (the guide's Derived/Test/ToyasCard.lean, 'card_holds'). Laid BY PROGRAM, IN A SANDBOX (cutbox-door.mjs). By AI agents, Wed Nov 11 2026. No macro, syntax, notation, axiom, sorry.
-/
import Derived.Test.YtlehfgdhebapeaaDoorRows
import GoSem.ClaimSeven
namespace Go.Proofs.YtlehfgdhebapeaaDoor
namespace Rows

/-- THE TIED CARD OF 'interleavelaw03.FormatTells'. -/
def formatTellsCard : Claim7 := { stood := { row := formatTellsRow, standIns := [], harness := (true, "69e1c9834d2f8ee9500a9156b930a283845fee97ec88009557a73ce6f05b676d"), looks := true }, kinds := [], alts := [], laidByText := true, laidKinds := [.data, .data, .data, .data], laidTests := true, laidLooks := .later }
def FormatTellsCardSaid : Prop := Claim7.holds Tryd.pinned (.plain (OpenSpec.ofChange formatTellsSpec)) formatTellsCard

/-- THE TIED CARD OF 'interleavelaw03.FormatLines'. -/
def formatLinesCard : Claim7 := { stood := { row := formatLinesRow, standIns := [], harness := (true, "69e1c9834d2f8ee9500a9156b930a283845fee97ec88009557a73ce6f05b676d"), looks := true }, kinds := [], alts := [], laidByText := true, laidKinds := [.data, .data, .data, .data], laidTests := true, laidLooks := .later }
def FormatLinesCardSaid : Prop := Claim7.holds Tryd.pinned (.plain (OpenSpec.ofChange formatLinesSpec)) formatLinesCard

/-- THE TIED CARD OF 'interleavelaw03.FormatMade'. -/
def formatMadeCard : Claim7 := { stood := { row := formatMadeRow, standIns := [], harness := (true, "69e1c9834d2f8ee9500a9156b930a283845fee97ec88009557a73ce6f05b676d"), looks := true }, kinds := [], alts := [], laidByText := true, laidKinds := [.data, .data, .data, .data], laidTests := true, laidLooks := .later }
def FormatMadeCardSaid : Prop := Claim7.holds Tryd.pinned (.plain (OpenSpec.ofChange formatMadeSpec)) formatMadeCard

/-- THE TIED CARD OF 'interleavelaw03.FormatRoundTrip'. -/
def formatRoundTripCard : Claim7 := { stood := { row := formatRoundTripRow, standIns := [], harness := (true, "69e1c9834d2f8ee9500a9156b930a283845fee97ec88009557a73ce6f05b676d"), looks := true }, kinds := [], alts := [], laidByText := true, laidKinds := [.data, .data, .data, .data, .sentinel, .sentinel, .data, .data, .pinned], laidTests := true, laidLooks := .later }
def FormatRoundTripCardSaid : Prop := Claim7.holds Tryd.pinned (.plain (OpenSpec.ofChange formatRoundTripSpec)) formatRoundTripCard

/-- THE SECOND FORM's CARD OF 'interleavelaw03.FormatTells'. -/
def formatTellsUptoCard : Claim7 := { stood := { row := formatTellsUptoRow, standIns := [], harness := (true, "69e1c9834d2f8ee9500a9156b930a283845fee97ec88009557a73ce6f05b676d"), looks := true }, kinds := [], alts := [], laidByText := true, laidKinds := [.data, .data, .data, .data], laidTests := true, laidLooks := .later }
def FormatTellsUptoCardSaid : Prop := Claim7.holds Tryd.pinned (.plain (OpenSpec.upto formatTellsSpec)) formatTellsUptoCard

/-- THE SECOND FORM's CARD OF 'interleavelaw03.FormatLines'. -/
def formatLinesUptoCard : Claim7 := { stood := { row := formatLinesUptoRow, standIns := [], harness := (true, "69e1c9834d2f8ee9500a9156b930a283845fee97ec88009557a73ce6f05b676d"), looks := true }, kinds := [], alts := [], laidByText := true, laidKinds := [.data, .data, .data, .data], laidTests := true, laidLooks := .later }
def FormatLinesUptoCardSaid : Prop := Claim7.holds Tryd.pinned (.plain (OpenSpec.upto formatLinesSpec)) formatLinesUptoCard

/-- THE SECOND FORM's CARD OF 'interleavelaw03.FormatMade'. -/
def formatMadeUptoCard : Claim7 := { stood := { row := formatMadeUptoRow, standIns := [], harness := (true, "69e1c9834d2f8ee9500a9156b930a283845fee97ec88009557a73ce6f05b676d"), looks := true }, kinds := [], alts := [], laidByText := true, laidKinds := [.data, .data, .data, .data], laidTests := true, laidLooks := .later }
def FormatMadeUptoCardSaid : Prop := Claim7.holds Tryd.pinned (.plain (OpenSpec.upto formatMadeSpec)) formatMadeUptoCard

/-- THE SECOND FORM's CARD OF 'interleavelaw03.FormatRoundTrip'. -/
def formatRoundTripUptoCard : Claim7 := { stood := { row := formatRoundTripUptoRow, standIns := [], harness := (true, "69e1c9834d2f8ee9500a9156b930a283845fee97ec88009557a73ce6f05b676d"), looks := true }, kinds := [], alts := [], laidByText := true, laidKinds := [.data, .data, .data, .data, .sentinel, .sentinel, .data, .data, .pinned], laidTests := true, laidLooks := .later }
def FormatRoundTripUptoCardSaid : Prop := Claim7.holds Tryd.pinned (.plain (OpenSpec.upto formatRoundTripSpec)) formatRoundTripUptoCard
end Rows
end Go.Proofs.YtlehfgdhebapeaaDoor
