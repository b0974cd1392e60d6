/-
  DERIVED. GIVEN WITH THE SEED: THE CARDS: each row of YthlbbjcbmojocabGreatDoorRows.lean that lists a variable, with what it lists TIED to the program's text (the seventh form; the later family's looks); each row that meets fmt, with fmt's text TOLD by the authors' own Lean function (tested against real Go, not proved from fmt's source: count such statements apart). THE CARD IS WHAT COUNTS. Prove the row's statement (the work); the ties are given (YthlbbjcbmojocabGreatDoorTie.lean); close each card by the builder's one call (the guide's Derived/Test/ToyasCard.lean, 'card_holds'). Laid BY PROGRAM, IN A SANDBOX (cutbox-door.mjs). By AI agents, Wed Nov 11 2026. No macro, syntax, notation, axiom, sorry.
-/
import Derived.Test.YthlbbjcbmojocabGreatDoorRows
import GoSem.ClaimSeven
namespace Go.Proofs.YthlbbjcbmojocabGreatDoor
namespace Rows

/-- THE TIED CARD OF 'interleavelaw41.VersionSelf'. -/
def versionSelfCard : Claim7 := { stood := { row := versionSelfRow, standIns := [], harness := (true, "ed24cdf08687eccba8ae5913e8cc04d8283fffd5c497ddb5bc567d678c06dcf4"), looks := true }, kinds := [], alts := [], laidByText := true, laidKinds := [.data, .data, .data, .data, .sentinel, .sentinel, .data, .data, .pinned], laidTests := true, laidLooks := .later }
def VersionSelfCardSaid : Prop := Claim7.holds Tryz.pinned (.plain (OpenSpec.ofChange versionSelfSpec)) versionSelfCard

/-- THE TIED CARD OF 'interleavelaw41.VersionKeeps'. -/
def versionKeepsCard : Claim7 := { stood := { row := versionKeepsRow, standIns := [], harness := (true, "ed24cdf08687eccba8ae5913e8cc04d8283fffd5c497ddb5bc567d678c06dcf4"), looks := true }, kinds := [], alts := [], laidByText := true, laidKinds := [.data, .data, .data, .data, .sentinel, .sentinel, .data, .data, .pinned], laidTests := true, laidLooks := .later }
def VersionKeepsCardSaid : Prop := Claim7.holds Tryz.pinned (.plain (OpenSpec.ofChange versionKeepsSpec)) versionKeepsCard

/-- THE SECOND FORM's CARD OF 'interleavelaw41.VersionSelf'. -/
def versionSelfUptoCard : Claim7 := { stood := { row := versionSelfUptoRow, standIns := [], harness := (true, "ed24cdf08687eccba8ae5913e8cc04d8283fffd5c497ddb5bc567d678c06dcf4"), looks := true }, kinds := [], alts := [], laidByText := true, laidKinds := [.data, .data, .data, .data, .sentinel, .sentinel, .data, .data, .pinned], laidTests := true, laidLooks := .later }
def VersionSelfUptoCardSaid : Prop := Claim7.holds Tryz.pinned (.plain (OpenSpec.upto versionSelfSpec)) versionSelfUptoCard

/-- THE SECOND FORM's CARD OF 'interleavelaw41.VersionKeeps'. -/
def versionKeepsUptoCard : Claim7 := { stood := { row := versionKeepsUptoRow, standIns := [], harness := (true, "ed24cdf08687eccba8ae5913e8cc04d8283fffd5c497ddb5bc567d678c06dcf4"), looks := true }, kinds := [], alts := [], laidByText := true, laidKinds := [.data, .data, .data, .data, .sentinel, .sentinel, .data, .data, .pinned], laidTests := true, laidLooks := .later }
def VersionKeepsUptoCardSaid : Prop := Claim7.holds Tryz.pinned (.plain (OpenSpec.upto versionKeepsSpec)) versionKeepsUptoCard
end Rows
end Go.Proofs.YthlbbjcbmojocabGreatDoor
