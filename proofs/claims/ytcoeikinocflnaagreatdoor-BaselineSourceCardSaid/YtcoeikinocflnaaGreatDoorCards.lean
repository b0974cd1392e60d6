/-
  DERIVED. GIVEN WITH THE SEED: THE CARDS: each row of YtcoeikinocflnaaGreatDoorRows.lean that lists a variable, with what it lists TIED to the program's text (the seventh form; the later family's looks); each row that meets fmt, with fmt's text TOLD by the authors' own Lean function (tested against real Go, not proved from fmt's source: count such statements apart). THE CARD IS WHAT COUNTS. Prove the row's statement (the work); the ties are given (YtcoeikinocflnaaGreatDoorTie.lean); close each card by the builder's one call (the guide's Derived/Test/ToyasCard.lean, 'card_holds'). Laid BY PROGRAM, IN A SANDBOX (cutbox-door.mjs). By AI agents, Wed Nov 11 2026. No macro, syntax, notation, axiom, sorry.
-/
import Derived.Test.YtcoeikinocflnaaGreatDoorRows
import GoSem.ClaimSeven
namespace Go.Proofs.YtcoeikinocflnaaGreatDoor
namespace Rows

/-- THE TIED CARD OF 'interleavelaw40.BaselineSource'. -/
def baselineSourceCard : Claim7 := { stood := { row := baselineSourceRow, standIns := [], harness := (true, "a2e1ceafdd4f98aa0be1135bdafb6896fe0a7557d115096e1ff3c63a56dce4e3"), looks := true }, kinds := [], alts := [], laidByText := true, laidKinds := [.data, .data, .data, .data, .sentinel, .sentinel, .data, .data, .pinned], laidTests := true, laidLooks := .later }
def BaselineSourceCardSaid : Prop := Claim7.holds Tryz.pinned (.plain (OpenSpec.ofChange baselineSourceSpec)) baselineSourceCard

/-- THE TIED CARD OF 'interleavelaw41.VersionMatches'. -/
def versionMatchesCard : Claim7 := { stood := { row := versionMatchesRow, standIns := [], harness := (true, "a2e1ceafdd4f98aa0be1135bdafb6896fe0a7557d115096e1ff3c63a56dce4e3"), looks := true }, kinds := [], alts := [], laidByText := true, laidKinds := [.data, .data, .data, .data, .sentinel, .sentinel, .data, .data, .pinned], laidTests := true, laidLooks := .later }
def VersionMatchesCardSaid : Prop := Claim7.holds Tryz.pinned (.plain (OpenSpec.ofChange versionMatchesSpec)) versionMatchesCard

/-- THE TIED CARD OF 'interleavelaw41.VersionTexts'. -/
def versionTextsCard : Claim7 := { stood := { row := versionTextsRow, standIns := [], harness := (true, "a2e1ceafdd4f98aa0be1135bdafb6896fe0a7557d115096e1ff3c63a56dce4e3"), looks := true }, kinds := [], alts := [], laidByText := true, laidKinds := [.data, .data, .data, .data, .sentinel, .sentinel, .data, .data, .pinned], laidTests := true, laidLooks := .later }
def VersionTextsCardSaid : Prop := Claim7.holds Tryz.pinned (.plain (OpenSpec.ofChange versionTextsSpec)) versionTextsCard

/-- THE TIED CARD OF 'interleavelaw41.VersionLines'. -/
def versionLinesCard : Claim7 := { stood := { row := versionLinesRow, standIns := [], harness := (true, "a2e1ceafdd4f98aa0be1135bdafb6896fe0a7557d115096e1ff3c63a56dce4e3"), looks := true }, kinds := [], alts := [], laidByText := true, laidKinds := [.data, .data, .data, .data, .sentinel, .sentinel, .data, .data, .pinned], laidTests := true, laidLooks := .later }
def VersionLinesCardSaid : Prop := Claim7.holds Tryz.pinned (.plain (OpenSpec.ofChange versionLinesSpec)) versionLinesCard

/-- THE TIED CARD OF 'interleavelaw41.VersionSelf'. -/
def versionSelfCard : Claim7 := { stood := { row := versionSelfRow, standIns := [], harness := (true, "a2e1ceafdd4f98aa0be1135bdafb6896fe0a7557d115096e1ff3c63a56dce4e3"), looks := true }, kinds := [], alts := [], laidByText := true, laidKinds := [.data, .data, .data, .data, .sentinel, .sentinel, .data, .data, .pinned], laidTests := true, laidLooks := .later }
def VersionSelfCardSaid : Prop := Claim7.holds Tryz.pinned (.plain (OpenSpec.ofChange versionSelfSpec)) versionSelfCard

/-- THE TIED CARD OF 'interleavelaw41.VersionKeeps'. -/
def versionKeepsCard : Claim7 := { stood := { row := versionKeepsRow, standIns := [], harness := (true, "a2e1ceafdd4f98aa0be1135bdafb6896fe0a7557d115096e1ff3c63a56dce4e3"), looks := true }, kinds := [], alts := [], laidByText := true, laidKinds := [.data, .data, .data, .data, .sentinel, .sentinel, .data, .data, .pinned], laidTests := true, laidLooks := .later }
def VersionKeepsCardSaid : Prop := Claim7.holds Tryz.pinned (.plain (OpenSpec.ofChange versionKeepsSpec)) versionKeepsCard

/-- THE TIED CARD OF 'interleavelaw41.VersionLongest'. -/
def versionLongestCard : Claim7 := { stood := { row := versionLongestRow, standIns := [], harness := (true, "a2e1ceafdd4f98aa0be1135bdafb6896fe0a7557d115096e1ff3c63a56dce4e3"), looks := true }, kinds := [], alts := [], laidByText := true, laidKinds := [.data, .data, .data, .data, .sentinel, .sentinel, .data, .data, .pinned], laidTests := true, laidLooks := .later }
def VersionLongestCardSaid : Prop := Claim7.holds Tryz.pinned (.plain (OpenSpec.ofChange versionLongestSpec)) versionLongestCard

/-- THE TIED CARD OF 'interleavelaw41.VersionLost'. -/
def versionLostCard : Claim7 := { stood := { row := versionLostRow, standIns := [], harness := (true, "a2e1ceafdd4f98aa0be1135bdafb6896fe0a7557d115096e1ff3c63a56dce4e3"), looks := true }, kinds := [], alts := [], laidByText := true, laidKinds := [.data, .data, .data, .data, .sentinel, .sentinel, .data, .data, .pinned], laidTests := true, laidLooks := .later }
def VersionLostCardSaid : Prop := Claim7.holds Tryz.pinned (.plain (OpenSpec.ofChange versionLostSpec)) versionLostCard

/-- THE TIED CARD OF 'interleavelaw41.VersionRebases'. -/
def versionRebasesCard : Claim7 := { stood := { row := versionRebasesRow, standIns := [], harness := (true, "a2e1ceafdd4f98aa0be1135bdafb6896fe0a7557d115096e1ff3c63a56dce4e3"), looks := true }, kinds := [], alts := [], laidByText := true, laidKinds := [.data, .data, .data, .data, .sentinel, .sentinel, .data, .data, .pinned], laidTests := true, laidLooks := .later }
def VersionRebasesCardSaid : Prop := Claim7.holds Tryz.pinned (.plain (OpenSpec.ofChange versionRebasesSpec)) versionRebasesCard

/-- THE TIED CARD OF 'interleavelaw41.VersionRefuses'. -/
def versionRefusesCard : Claim7 := { stood := { row := versionRefusesRow, standIns := [], harness := (true, "a2e1ceafdd4f98aa0be1135bdafb6896fe0a7557d115096e1ff3c63a56dce4e3"), looks := true }, kinds := [], alts := [], laidByText := true, laidKinds := [.data, .data, .data, .data, .sentinel, .sentinel, .data, .data, .pinned], laidTests := true, laidLooks := .later }
def VersionRefusesCardSaid : Prop := Claim7.holds Tryz.pinned (.plain (OpenSpec.ofChange versionRefusesSpec)) versionRefusesCard

/-- THE TIED CARD OF 'interleavelaw41.VersionStays'. -/
def versionStaysCard : Claim7 := { stood := { row := versionStaysRow, standIns := [], harness := (true, "a2e1ceafdd4f98aa0be1135bdafb6896fe0a7557d115096e1ff3c63a56dce4e3"), looks := true }, kinds := [], alts := [], laidByText := true, laidKinds := [.data, .data, .data, .data, .sentinel, .sentinel, .data, .data, .pinned], laidTests := true, laidLooks := .later }
def VersionStaysCardSaid : Prop := Claim7.holds Tryz.pinned (.plain (OpenSpec.ofChange versionStaysSpec)) versionStaysCard

/-- THE TIED CARD OF 'interleavelaw41.VersionLoses'. -/
def versionLosesCard : Claim7 := { stood := { row := versionLosesRow, standIns := [], harness := (true, "a2e1ceafdd4f98aa0be1135bdafb6896fe0a7557d115096e1ff3c63a56dce4e3"), looks := true }, kinds := [], alts := [], laidByText := true, laidKinds := [.data, .data, .data, .data, .sentinel, .sentinel, .data, .data, .pinned], laidTests := true, laidLooks := .later }
def VersionLosesCardSaid : Prop := Claim7.holds Tryz.pinned (.plain (OpenSpec.ofChange versionLosesSpec)) versionLosesCard

/-- THE SECOND FORM's CARD OF 'interleavelaw40.BaselineSource'. -/
def baselineSourceUptoCard : Claim7 := { stood := { row := baselineSourceUptoRow, standIns := [], harness := (true, "a2e1ceafdd4f98aa0be1135bdafb6896fe0a7557d115096e1ff3c63a56dce4e3"), looks := true }, kinds := [], alts := [], laidByText := true, laidKinds := [.data, .data, .data, .data, .sentinel, .sentinel, .data, .data, .pinned], laidTests := true, laidLooks := .later }
def BaselineSourceUptoCardSaid : Prop := Claim7.holds Tryz.pinned (.plain (OpenSpec.upto baselineSourceSpec)) baselineSourceUptoCard

/-- THE SECOND FORM's CARD OF 'interleavelaw41.VersionMatches'. -/
def versionMatchesUptoCard : Claim7 := { stood := { row := versionMatchesUptoRow, standIns := [], harness := (true, "a2e1ceafdd4f98aa0be1135bdafb6896fe0a7557d115096e1ff3c63a56dce4e3"), looks := true }, kinds := [], alts := [], laidByText := true, laidKinds := [.data, .data, .data, .data, .sentinel, .sentinel, .data, .data, .pinned], laidTests := true, laidLooks := .later }
def VersionMatchesUptoCardSaid : Prop := Claim7.holds Tryz.pinned (.plain (OpenSpec.upto versionMatchesSpec)) versionMatchesUptoCard

/-- THE SECOND FORM's CARD OF 'interleavelaw41.VersionTexts'. -/
def versionTextsUptoCard : Claim7 := { stood := { row := versionTextsUptoRow, standIns := [], harness := (true, "a2e1ceafdd4f98aa0be1135bdafb6896fe0a7557d115096e1ff3c63a56dce4e3"), looks := true }, kinds := [], alts := [], laidByText := true, laidKinds := [.data, .data, .data, .data, .sentinel, .sentinel, .data, .data, .pinned], laidTests := true, laidLooks := .later }
def VersionTextsUptoCardSaid : Prop := Claim7.holds Tryz.pinned (.plain (OpenSpec.upto versionTextsSpec)) versionTextsUptoCard

/-- THE SECOND FORM's CARD OF 'interleavelaw41.VersionLines'. -/
def versionLinesUptoCard : Claim7 := { stood := { row := versionLinesUptoRow, standIns := [], harness := (true, "a2e1ceafdd4f98aa0be1135bdafb6896fe0a7557d115096e1ff3c63a56dce4e3"), looks := true }, kinds := [], alts := [], laidByText := true, laidKinds := [.data, .data, .data, .data, .sentinel, .sentinel, .data, .data, .pinned], laidTests := true, laidLooks := .later }
def VersionLinesUptoCardSaid : Prop := Claim7.holds Tryz.pinned (.plain (OpenSpec.upto versionLinesSpec)) versionLinesUptoCard

/-- THE SECOND FORM's CARD OF 'interleavelaw41.VersionSelf'. -/
def versionSelfUptoCard : Claim7 := { stood := { row := versionSelfUptoRow, standIns := [], harness := (true, "a2e1ceafdd4f98aa0be1135bdafb6896fe0a7557d115096e1ff3c63a56dce4e3"), looks := true }, kinds := [], alts := [], laidByText := true, laidKinds := [.data, .data, .data, .data, .sentinel, .sentinel, .data, .data, .pinned], laidTests := true, laidLooks := .later }
def VersionSelfUptoCardSaid : Prop := Claim7.holds Tryz.pinned (.plain (OpenSpec.upto versionSelfSpec)) versionSelfUptoCard

/-- THE SECOND FORM's CARD OF 'interleavelaw41.VersionKeeps'. -/
def versionKeepsUptoCard : Claim7 := { stood := { row := versionKeepsUptoRow, standIns := [], harness := (true, "a2e1ceafdd4f98aa0be1135bdafb6896fe0a7557d115096e1ff3c63a56dce4e3"), looks := true }, kinds := [], alts := [], laidByText := true, laidKinds := [.data, .data, .data, .data, .sentinel, .sentinel, .data, .data, .pinned], laidTests := true, laidLooks := .later }
def VersionKeepsUptoCardSaid : Prop := Claim7.holds Tryz.pinned (.plain (OpenSpec.upto versionKeepsSpec)) versionKeepsUptoCard

/-- THE SECOND FORM's CARD OF 'interleavelaw41.VersionLongest'. -/
def versionLongestUptoCard : Claim7 := { stood := { row := versionLongestUptoRow, standIns := [], harness := (true, "a2e1ceafdd4f98aa0be1135bdafb6896fe0a7557d115096e1ff3c63a56dce4e3"), looks := true }, kinds := [], alts := [], laidByText := true, laidKinds := [.data, .data, .data, .data, .sentinel, .sentinel, .data, .data, .pinned], laidTests := true, laidLooks := .later }
def VersionLongestUptoCardSaid : Prop := Claim7.holds Tryz.pinned (.plain (OpenSpec.upto versionLongestSpec)) versionLongestUptoCard

/-- THE SECOND FORM's CARD OF 'interleavelaw41.VersionLost'. -/
def versionLostUptoCard : Claim7 := { stood := { row := versionLostUptoRow, standIns := [], harness := (true, "a2e1ceafdd4f98aa0be1135bdafb6896fe0a7557d115096e1ff3c63a56dce4e3"), looks := true }, kinds := [], alts := [], laidByText := true, laidKinds := [.data, .data, .data, .data, .sentinel, .sentinel, .data, .data, .pinned], laidTests := true, laidLooks := .later }
def VersionLostUptoCardSaid : Prop := Claim7.holds Tryz.pinned (.plain (OpenSpec.upto versionLostSpec)) versionLostUptoCard

/-- THE SECOND FORM's CARD OF 'interleavelaw41.VersionRebases'. -/
def versionRebasesUptoCard : Claim7 := { stood := { row := versionRebasesUptoRow, standIns := [], harness := (true, "a2e1ceafdd4f98aa0be1135bdafb6896fe0a7557d115096e1ff3c63a56dce4e3"), looks := true }, kinds := [], alts := [], laidByText := true, laidKinds := [.data, .data, .data, .data, .sentinel, .sentinel, .data, .data, .pinned], laidTests := true, laidLooks := .later }
def VersionRebasesUptoCardSaid : Prop := Claim7.holds Tryz.pinned (.plain (OpenSpec.upto versionRebasesSpec)) versionRebasesUptoCard

/-- THE SECOND FORM's CARD OF 'interleavelaw41.VersionRefuses'. -/
def versionRefusesUptoCard : Claim7 := { stood := { row := versionRefusesUptoRow, standIns := [], harness := (true, "a2e1ceafdd4f98aa0be1135bdafb6896fe0a7557d115096e1ff3c63a56dce4e3"), looks := true }, kinds := [], alts := [], laidByText := true, laidKinds := [.data, .data, .data, .data, .sentinel, .sentinel, .data, .data, .pinned], laidTests := true, laidLooks := .later }
def VersionRefusesUptoCardSaid : Prop := Claim7.holds Tryz.pinned (.plain (OpenSpec.upto versionRefusesSpec)) versionRefusesUptoCard

/-- THE SECOND FORM's CARD OF 'interleavelaw41.VersionStays'. -/
def versionStaysUptoCard : Claim7 := { stood := { row := versionStaysUptoRow, standIns := [], harness := (true, "a2e1ceafdd4f98aa0be1135bdafb6896fe0a7557d115096e1ff3c63a56dce4e3"), looks := true }, kinds := [], alts := [], laidByText := true, laidKinds := [.data, .data, .data, .data, .sentinel, .sentinel, .data, .data, .pinned], laidTests := true, laidLooks := .later }
def VersionStaysUptoCardSaid : Prop := Claim7.holds Tryz.pinned (.plain (OpenSpec.upto versionStaysSpec)) versionStaysUptoCard

/-- THE SECOND FORM's CARD OF 'interleavelaw41.VersionLoses'. -/
def versionLosesUptoCard : Claim7 := { stood := { row := versionLosesUptoRow, standIns := [], harness := (true, "a2e1ceafdd4f98aa0be1135bdafb6896fe0a7557d115096e1ff3c63a56dce4e3"), looks := true }, kinds := [], alts := [], laidByText := true, laidKinds := [.data, .data, .data, .data, .sentinel, .sentinel, .data, .data, .pinned], laidTests := true, laidLooks := .later }
def VersionLosesUptoCardSaid : Prop := Claim7.holds Tryz.pinned (.plain (OpenSpec.upto versionLosesSpec)) versionLosesUptoCard
end Rows
end Go.Proofs.YtcoeikinocflnaaGreatDoor
