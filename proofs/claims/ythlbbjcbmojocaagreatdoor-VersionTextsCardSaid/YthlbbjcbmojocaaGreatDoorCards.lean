/-
  DERIVED. GIVEN WITH THE SEED: THE CARDS: each row of YthlbbjcbmojocaaGreatDoorRows.lean that lists a variable, with what it lists TIED to the program's text (the seventh form; the later family's looks); each row that meets fmt, with fmt's text TOLD by the authors' own Lean function (tested against real Go, not proved from fmt's source: count such statements apart). THE CARD IS WHAT COUNTS. Prove the row's statement (the work); the ties are given (YthlbbjcbmojocaaGreatDoorTie.lean); close each card by the builder's one call (the guide's Derived/Test/ToyasCard.lean, 'card_holds'). Laid BY PROGRAM, IN A SANDBOX (cutbox-door.mjs). By AI agents, Wed Nov 11 2026. No macro, syntax, notation, axiom, sorry.
-/
import Derived.Test.YthlbbjcbmojocaaGreatDoorRows
import GoSem.ClaimSeven
namespace Go.Proofs.YthlbbjcbmojocaaGreatDoor
namespace Rows

/-- THE TIED CARD OF 'interleavelaw41.VersionMatches'. -/
def versionMatchesCard : Claim7 := { stood := { row := versionMatchesRow, standIns := [], harness := (true, "fd12c7bea54fa206fac2d6e101a8d673dc2597ed1df2d0b4a0399efa1e25b822"), looks := true }, kinds := [], alts := [], laidByText := true, laidKinds := [.data, .data, .data, .data, .sentinel, .sentinel, .data, .data, .pinned], laidTests := true, laidLooks := .later }
def VersionMatchesCardSaid : Prop := Claim7.holds Tryz.pinned (.plain (OpenSpec.ofChange versionMatchesSpec)) versionMatchesCard

/-- THE TIED CARD OF 'interleavelaw41.VersionTexts'. -/
def versionTextsCard : Claim7 := { stood := { row := versionTextsRow, standIns := [], harness := (true, "fd12c7bea54fa206fac2d6e101a8d673dc2597ed1df2d0b4a0399efa1e25b822"), looks := true }, kinds := [], alts := [], laidByText := true, laidKinds := [.data, .data, .data, .data, .sentinel, .sentinel, .data, .data, .pinned], laidTests := true, laidLooks := .later }
def VersionTextsCardSaid : Prop := Claim7.holds Tryz.pinned (.plain (OpenSpec.ofChange versionTextsSpec)) versionTextsCard

/-- THE SECOND FORM's CARD OF 'interleavelaw41.VersionMatches'. -/
def versionMatchesUptoCard : Claim7 := { stood := { row := versionMatchesUptoRow, standIns := [], harness := (true, "fd12c7bea54fa206fac2d6e101a8d673dc2597ed1df2d0b4a0399efa1e25b822"), looks := true }, kinds := [], alts := [], laidByText := true, laidKinds := [.data, .data, .data, .data, .sentinel, .sentinel, .data, .data, .pinned], laidTests := true, laidLooks := .later }
def VersionMatchesUptoCardSaid : Prop := Claim7.holds Tryz.pinned (.plain (OpenSpec.upto versionMatchesSpec)) versionMatchesUptoCard

/-- THE SECOND FORM's CARD OF 'interleavelaw41.VersionTexts'. -/
def versionTextsUptoCard : Claim7 := { stood := { row := versionTextsUptoRow, standIns := [], harness := (true, "fd12c7bea54fa206fac2d6e101a8d673dc2597ed1df2d0b4a0399efa1e25b822"), looks := true }, kinds := [], alts := [], laidByText := true, laidKinds := [.data, .data, .data, .data, .sentinel, .sentinel, .data, .data, .pinned], laidTests := true, laidLooks := .later }
def VersionTextsUptoCardSaid : Prop := Claim7.holds Tryz.pinned (.plain (OpenSpec.upto versionTextsSpec)) versionTextsUptoCard
end Rows
end Go.Proofs.YthlbbjcbmojocaaGreatDoor
