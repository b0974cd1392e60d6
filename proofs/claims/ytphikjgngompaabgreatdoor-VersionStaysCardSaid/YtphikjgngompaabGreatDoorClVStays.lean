/- The law VersionStays returns true of every pair of versions, every list of items and every number: rebased to the same program a baseline keeps the entries whose sites exist, is valid, and is not changed by rebasing it again. Conditions: none beside the row's own. -/
import Derived.Test.YtphikjgngompaabGreatDoorCkVStays
set_option linter.all false
namespace Go.Proofs.YtphikjgngompaabGreatDoor
open Go.ChangeShapes Go.WideShapes Go.ChangeAt Go.RowKit KM
/-- THE CARD: VersionStays is true of every input. -/
theorem versionStays_card : Rows.VersionStaysCardSaid :=
  Claim7.holds_tied_plain_at .later [] _ _ _ _ VersionStays.said (fun _ h => by cases h) (by as_aux_lemma => kernel_rfl) (fun _ h => by cases h) versionStays_row_tie rfl ⟨rfl, rfl⟩ (by as_aux_lemma => kernel_rfl) rfl VersionStays.plain (by as_aux_lemma => kernel_rfl)
end Go.Proofs.YtphikjgngompaabGreatDoor
