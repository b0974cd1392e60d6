/- The law VersionRefuses returns true of every pair of versions and every value of a baseline's type: version.Rebase and the reference interleaveref39.Rebase refuse the same values. Conditions: none beside the row's own. -/
import Derived.Test.YtphikjgngompaacGreatDoorCkVRefuses
set_option linter.all false
namespace Go.Proofs.YtphikjgngompaacGreatDoor
open Go.ChangeShapes Go.WideShapes Go.ChangeAt Go.RowKit KM
/-- THE CARD: VersionRefuses is true of every input. -/
theorem versionRefuses_card : Rows.VersionRefusesCardSaid :=
  Claim7.holds_tied_plain_at .later [] _ _ _ _ VersionRefuses.said (fun _ h => by cases h) (by as_aux_lemma => kernel_rfl) (fun _ h => by cases h) versionRefuses_row_tie rfl ⟨rfl, rfl⟩ (by as_aux_lemma => kernel_rfl) rfl VersionRefuses.plain (by as_aux_lemma => kernel_rfl)
end Go.Proofs.YtphikjgngompaacGreatDoor
