/- The law VersionMatches returns true of every pair of versions: version.Match and the reference interleaveref39.Match give the same corresponding sites, both ways. Conditions: none beside the row's own. -/
import Derived.Test.YthlbbjcbmojocaaGreatDoorCkVMatches
set_option linter.all false
namespace Go.Proofs.YthlbbjcbmojocaaGreatDoor
open Go.ChangeShapes Go.WideShapes Go.ChangeAt Go.RowKit KM
/-- THE CARD: VersionMatches is true of every input. -/
theorem versionMatches_card : Rows.VersionMatchesCardSaid :=
  Claim7.holds_tied_plain_at .later [] _ _ _ _ VersionMatches.said (fun _ h => by cases h) (by as_aux_lemma => kernel_rfl) (fun _ h => by cases h) versionMatches_row_tie rfl ⟨rfl, rfl⟩ (by as_aux_lemma => kernel_rfl) rfl VersionMatches.plain (by as_aux_lemma => kernel_rfl)
end Go.Proofs.YthlbbjcbmojocaaGreatDoor
