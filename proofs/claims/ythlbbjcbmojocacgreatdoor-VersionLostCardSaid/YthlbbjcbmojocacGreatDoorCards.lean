/-
  DERIVED. GIVEN WITH THE SEED: THE CARDS: each row of YthlbbjcbmojocacGreatDoorRows.lean that lists a variable, with what it lists TIED to the program's text (the seventh form; the later family's looks); each row that meets fmt, with fmt's text TOLD by the authors' own Lean function (tested against real Go, not proved from fmt's source: count such statements apart). THE CARD IS WHAT COUNTS. Prove the row's statement (the work); the ties are given (YthlbbjcbmojocacGreatDoorTie.lean); close each card by the builder's one call (the guide's Derived/Test/ToyasCard.lean, 'card_holds'). Laid BY PROGRAM, IN A SANDBOX (cutbox-door.mjs). By AI agents, Wed Nov 11 2026. No macro, syntax, notation, axiom, sorry.
-/
import Derived.Test.YthlbbjcbmojocacGreatDoorRows
import GoSem.ClaimSeven
namespace Go.Proofs.YthlbbjcbmojocacGreatDoor
namespace Rows

/-- THE TIED CARD OF 'interleavelaw41.VersionLost'. -/
def versionLostCard : Claim7 := { stood := { row := versionLostRow, standIns := [], harness := (true, "7db46bc9e3e2e705876fcafa1dedadafab16dde2e65e9e6ef5b8f25df5b9fac9"), looks := true }, kinds := [], alts := [], laidByText := true, laidKinds := [.data, .data, .data, .data, .sentinel, .sentinel, .data, .data, .pinned], laidTests := true, laidLooks := .later }
def VersionLostCardSaid : Prop := Claim7.holds Tryz.pinned (.plain (OpenSpec.ofChange versionLostSpec)) versionLostCard

/-- THE TIED CARD OF 'interleavelaw41.VersionLoses'. -/
def versionLosesCard : Claim7 := { stood := { row := versionLosesRow, standIns := [], harness := (true, "7db46bc9e3e2e705876fcafa1dedadafab16dde2e65e9e6ef5b8f25df5b9fac9"), looks := true }, kinds := [], alts := [], laidByText := true, laidKinds := [.data, .data, .data, .data, .sentinel, .sentinel, .data, .data, .pinned], laidTests := true, laidLooks := .later }
def VersionLosesCardSaid : Prop := Claim7.holds Tryz.pinned (.plain (OpenSpec.ofChange versionLosesSpec)) versionLosesCard

/-- THE SECOND FORM's CARD OF 'interleavelaw41.VersionLost'. -/
def versionLostUptoCard : Claim7 := { stood := { row := versionLostUptoRow, standIns := [], harness := (true, "7db46bc9e3e2e705876fcafa1dedadafab16dde2e65e9e6ef5b8f25df5b9fac9"), looks := true }, kinds := [], alts := [], laidByText := true, laidKinds := [.data, .data, .data, .data, .sentinel, .sentinel, .data, .data, .pinned], laidTests := true, laidLooks := .later }
def VersionLostUptoCardSaid : Prop := Claim7.holds Tryz.pinned (.plain (OpenSpec.upto versionLostSpec)) versionLostUptoCard

/-- THE SECOND FORM's CARD OF 'interleavelaw41.VersionLoses'. -/
def versionLosesUptoCard : Claim7 := { stood := { row := versionLosesUptoRow, standIns := [], harness := (true, "7db46bc9e3e2e705876fcafa1dedadafab16dde2e65e9e6ef5b8f25df5b9fac9"), looks := true }, kinds := [], alts := [], laidByText := true, laidKinds := [.data, .data, .data, .data, .sentinel, .sentinel, .data, .data, .pinned], laidTests := true, laidLooks := .later }
def VersionLosesUptoCardSaid : Prop := Claim7.holds Tryz.pinned (.plain (OpenSpec.upto versionLosesSpec)) versionLosesUptoCard
end Rows
end Go.Proofs.YthlbbjcbmojocacGreatDoor
