/-
  DERIVED. GIVEN WITH THE SEED: THE CARDS: each row of YtphikjgngompaabGreatDoorRows.lean that lists a variable, with what it lists TIED to the program's text (the seventh form; the later family's looks); each row that meets fmt, with fmt's text TOLD by the authors' own Lean function (tested against real Go, not proved from fmt's source: count such statements apart). THE CARD IS WHAT COUNTS. Prove the row's statement (the work); the ties are given (YtphikjgngompaabGreatDoorTie.lean); close each card by the builder's one call (the guide's Derived/Test/ToyasCard.lean, 'card_holds'). Laid BY PROGRAM, IN A SANDBOX (cutbox-door.mjs). By AI agents, Wed Nov 11 2026. No macro, syntax, notation, axiom, sorry.
-/
import Derived.Test.YtphikjgngompaabGreatDoorRows
import GoSem.ClaimSeven
namespace Go.Proofs.YtphikjgngompaabGreatDoor
namespace Rows

/-- THE TIED CARD OF 'interleavelaw41.VersionStays'. -/
def versionStaysCard : Claim7 := { stood := { row := versionStaysRow, standIns := [], harness := (true, "b670991c273eff7d84536fb8e38c3b644ca210fefdafcdac049f99bde8f4d56b"), looks := true }, kinds := [], alts := [], laidByText := true, laidKinds := [.data, .data, .data, .data, .sentinel, .sentinel, .data, .data, .pinned], laidTests := true, laidLooks := .later }
def VersionStaysCardSaid : Prop := Claim7.holds Tryz.pinned (.plain (OpenSpec.ofChange versionStaysSpec)) versionStaysCard

/-- THE SECOND FORM's CARD OF 'interleavelaw41.VersionStays'. -/
def versionStaysUptoCard : Claim7 := { stood := { row := versionStaysUptoRow, standIns := [], harness := (true, "b670991c273eff7d84536fb8e38c3b644ca210fefdafcdac049f99bde8f4d56b"), looks := true }, kinds := [], alts := [], laidByText := true, laidKinds := [.data, .data, .data, .data, .sentinel, .sentinel, .data, .data, .pinned], laidTests := true, laidLooks := .later }
def VersionStaysUptoCardSaid : Prop := Claim7.holds Tryz.pinned (.plain (OpenSpec.upto versionStaysSpec)) versionStaysUptoCard
end Rows
end Go.Proofs.YtphikjgngompaabGreatDoor
