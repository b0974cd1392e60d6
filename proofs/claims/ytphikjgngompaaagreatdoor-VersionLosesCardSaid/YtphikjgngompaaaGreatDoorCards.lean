/-
  DERIVED. GIVEN WITH THE SEED: THE CARDS: each row of YtphikjgngompaaaGreatDoorRows.lean that lists a variable, with what it lists TIED to the program's text (the seventh form; the later family's looks); each row that meets fmt, with fmt's text TOLD by the authors' own Lean function (tested against real Go, not proved from fmt's source: count such statements apart). THE CARD IS WHAT COUNTS. Prove the row's statement (the work); the ties are given (YtphikjgngompaaaGreatDoorTie.lean); close each card by the builder's one call (the guide's Derived/Test/ToyasCard.lean, 'card_holds'). Laid BY PROGRAM, IN A SANDBOX (cutbox-door.mjs). By AI agents, Wed Nov 11 2026. No macro, syntax, notation, axiom, sorry.
-/
import Derived.Test.YtphikjgngompaaaGreatDoorRows
import GoSem.ClaimSeven
namespace Go.Proofs.YtphikjgngompaaaGreatDoor
namespace Rows

/-- THE TIED CARD OF 'interleavelaw41.VersionLoses'. -/
def versionLosesCard : Claim7 := { stood := { row := versionLosesRow, standIns := [], harness := (true, "8f3d816f3a96c302d7976546a8b6cd23bb1564c02f90683ddd7d899c8281434e"), looks := true }, kinds := [], alts := [], laidByText := true, laidKinds := [.data, .data, .data, .data, .sentinel, .sentinel, .data, .data, .pinned], laidTests := true, laidLooks := .later }
def VersionLosesCardSaid : Prop := Claim7.holds Tryz.pinned (.plain (OpenSpec.ofChange versionLosesSpec)) versionLosesCard

/-- THE SECOND FORM's CARD OF 'interleavelaw41.VersionLoses'. -/
def versionLosesUptoCard : Claim7 := { stood := { row := versionLosesUptoRow, standIns := [], harness := (true, "8f3d816f3a96c302d7976546a8b6cd23bb1564c02f90683ddd7d899c8281434e"), looks := true }, kinds := [], alts := [], laidByText := true, laidKinds := [.data, .data, .data, .data, .sentinel, .sentinel, .data, .data, .pinned], laidTests := true, laidLooks := .later }
def VersionLosesUptoCardSaid : Prop := Claim7.holds Tryz.pinned (.plain (OpenSpec.upto versionLosesSpec)) versionLosesUptoCard
end Rows
end Go.Proofs.YtphikjgngompaaaGreatDoor
