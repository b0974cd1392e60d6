/- The law VersionLost returns true of every pair of versions, every list of items and every number: version.Lost and the reference interleaveref39.Lost give the same keys. Conditions: none beside the row's own. -/
import Derived.Test.YthlbbjcbmojocacGreatDoorCkVLost
set_option linter.all false
namespace Go.Proofs.YthlbbjcbmojocacGreatDoor
open Go.ChangeShapes Go.WideShapes Go.ChangeAt Go.RowKit KM
/-- THE CARD: VersionLost is true of every input. -/
theorem versionLost_card : Rows.VersionLostCardSaid :=
  Claim7.holds_tied_plain_at .later [] _ _ _ _ VersionLost.said (fun _ h => by cases h) (by as_aux_lemma => kernel_rfl) (fun _ h => by cases h) versionLost_row_tie rfl ⟨rfl, rfl⟩ (by as_aux_lemma => kernel_rfl) rfl VersionLost.plain (by as_aux_lemma => kernel_rfl)
end Go.Proofs.YthlbbjcbmojocacGreatDoor
