/-
  DERIVED. GIVEN WITH THE SEED: THE CARDS: each row of YtphikjgngompaacGreatDoorRows.lean that lists a variable, with what it lists TIED to the program's text (the seventh form; the later family's looks); each row that meets fmt, with fmt's text TOLD by the authors' own Lean function (tested against real Go, not proved from fmt's source: count such statements apart). THE CARD IS WHAT COUNTS. Prove the row's statement (the work); the ties are given (YtphikjgngompaacGreatDoorTie.lean); close each card by the builder's one call (the guide's Derived/Test/ToyasCard.lean, 'card_holds'). Laid BY PROGRAM, IN A SANDBOX (cutbox-door.mjs). By AI agents, Wed Nov 11 2026. No macro, syntax, notation, axiom, sorry.
-/
import Derived.Test.YtphikjgngompaacGreatDoorRows
import GoSem.ClaimSeven
namespace Go.Proofs.YtphikjgngompaacGreatDoor
namespace Rows

/-- THE TIED CARD OF 'interleavelaw41.VersionRefuses'. -/
def versionRefusesCard : Claim7 := { stood := { row := versionRefusesRow, standIns := [], harness := (true, "ca3f5f2dacf70acbd462a7a2fa7cad8fe29e3614f67c5034240215b6cc4239d0"), looks := true }, kinds := [], alts := [], laidByText := true, laidKinds := [.data, .data, .data, .data, .sentinel, .sentinel, .data, .data, .pinned], laidTests := true, laidLooks := .later }
def VersionRefusesCardSaid : Prop := Claim7.holds Tryz.pinned (.plain (OpenSpec.ofChange versionRefusesSpec)) versionRefusesCard

/-- THE SECOND FORM's CARD OF 'interleavelaw41.VersionRefuses'. -/
def versionRefusesUptoCard : Claim7 := { stood := { row := versionRefusesUptoRow, standIns := [], harness := (true, "ca3f5f2dacf70acbd462a7a2fa7cad8fe29e3614f67c5034240215b6cc4239d0"), looks := true }, kinds := [], alts := [], laidByText := true, laidKinds := [.data, .data, .data, .data, .sentinel, .sentinel, .data, .data, .pinned], laidTests := true, laidLooks := .later }
def VersionRefusesUptoCardSaid : Prop := Claim7.holds Tryz.pinned (.plain (OpenSpec.upto versionRefusesSpec)) versionRefusesUptoCard
end Rows
end Go.Proofs.YtphikjgngompaacGreatDoor
