/- The law VersionLoses returns true of every pair of versions, every list of items and every number: an entry is lost exactly if one of its sites does not exist or is lost. Conditions: none beside the row's own. -/
import Derived.Test.YtphikjgngompaaaGreatDoorCkVLoses
set_option linter.all false
namespace Go.Proofs.YtphikjgngompaaaGreatDoor
open Go.ChangeShapes Go.WideShapes Go.ChangeAt Go.RowKit KM
/-- THE CARD: VersionLoses is true of every input. -/
theorem versionLoses_card : Rows.VersionLosesCardSaid :=
  Claim7.holds_tied_plain_at .later [] _ _ _ _ VersionLoses.said (fun _ h => by cases h) (by as_aux_lemma => kernel_rfl) (fun _ h => by cases h) versionLoses_row_tie rfl ⟨rfl, rfl⟩ (by as_aux_lemma => kernel_rfl) rfl VersionLoses.plain (by as_aux_lemma => kernel_rfl)
end Go.Proofs.YtphikjgngompaaaGreatDoor
