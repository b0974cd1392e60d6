/- The law VersionRebases returns true of every pair of versions, every list of items and every number: version.Rebase and the reference interleaveref39.Rebase give the same baseline and the same lost entries. Conditions: none beside the row's own. -/
import Derived.Test.YtdbnbejffjhdlaaGreatDoorCkVRebases
set_option linter.all false
namespace Go.Proofs.YtdbnbejffjhdlaaGreatDoor
open Go.ChangeShapes Go.WideShapes Go.ChangeAt Go.RowKit KM
/-- THE CARD: VersionRebases is true of every input. -/
theorem versionRebases_card : Rows.VersionRebasesCardSaid :=
  Claim7.holds_tied_plain_at .later [] _ _ _ _ VersionRebases.said (fun _ h => by cases h) (by as_aux_lemma => kernel_rfl) (fun _ h => by cases h) versionRebases_row_tie rfl ⟨rfl, rfl⟩ (by as_aux_lemma => kernel_rfl) rfl VersionRebases.plain (by as_aux_lemma => kernel_rfl)
end Go.Proofs.YtdbnbejffjhdlaaGreatDoor
