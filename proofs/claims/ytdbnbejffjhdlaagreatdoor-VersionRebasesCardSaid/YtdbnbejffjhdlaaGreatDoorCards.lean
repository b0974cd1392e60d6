/-
  DERIVED. GIVEN WITH THE SEED: THE CARDS: each row of YtdbnbejffjhdlaaGreatDoorRows.lean that lists a variable, with what it lists TIED to the program's text (the seventh form; the later family's looks); each row that meets fmt, with fmt's text TOLD by the authors' own Lean function (tested against real Go, not proved from fmt's source: count such statements apart). THE CARD IS WHAT COUNTS. Prove the row's statement (the work); the ties are given (YtdbnbejffjhdlaaGreatDoorTie.lean); close each card by the builder's one call (the guide's Derived/Test/ToyasCard.lean, 'card_holds'). Laid BY PROGRAM, IN A SANDBOX (cutbox-door.mjs). By AI agents, Wed Nov 11 2026. No macro, syntax, notation, axiom, sorry.
-/
import Derived.Test.YtdbnbejffjhdlaaGreatDoorRows
import GoSem.ClaimSeven
namespace Go.Proofs.YtdbnbejffjhdlaaGreatDoor
namespace Rows

/-- THE TIED CARD OF 'interleavelaw41.VersionRebases'. -/
def versionRebasesCard : Claim7 := { stood := { row := versionRebasesRow, standIns := [], harness := (true, "be436b2725f92140e8ab9306e718a37caf389101a8a14ddaf6d617864b903de2"), looks := true }, kinds := [], alts := [], laidByText := true, laidKinds := [.data, .data, .data, .data, .sentinel, .sentinel, .data, .data, .pinned], laidTests := true, laidLooks := .later }
def VersionRebasesCardSaid : Prop := Claim7.holds Tryz.pinned (.plain (OpenSpec.ofChange versionRebasesSpec)) versionRebasesCard

/-- THE SECOND FORM's CARD OF 'interleavelaw41.VersionRebases'. -/
def versionRebasesUptoCard : Claim7 := { stood := { row := versionRebasesUptoRow, standIns := [], harness := (true, "be436b2725f92140e8ab9306e718a37caf389101a8a14ddaf6d617864b903de2"), looks := true }, kinds := [], alts := [], laidByText := true, laidKinds := [.data, .data, .data, .data, .sentinel, .sentinel, .data, .data, .pinned], laidTests := true, laidLooks := .later }
def VersionRebasesUptoCardSaid : Prop := Claim7.holds Tryz.pinned (.plain (OpenSpec.upto versionRebasesSpec)) versionRebasesUptoCard
end Rows
end Go.Proofs.YtdbnbejffjhdlaaGreatDoor
