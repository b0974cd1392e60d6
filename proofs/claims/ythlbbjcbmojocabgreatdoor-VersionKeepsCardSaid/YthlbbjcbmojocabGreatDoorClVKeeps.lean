/- The law VersionKeeps returns true of every pair of versions: corresponding sites have the same thread and line, and the same order within a thread. Conditions: none beside the row's own. -/
import Derived.Test.YthlbbjcbmojocabGreatDoorCkVKeeps
set_option linter.all false
namespace Go.Proofs.YthlbbjcbmojocabGreatDoor
open Go.ChangeShapes Go.WideShapes Go.ChangeAt Go.RowKit KM
/-- THE CARD: VersionKeeps is true of every input. -/
theorem versionKeeps_card : Rows.VersionKeepsCardSaid :=
  Claim7.holds_tied_plain_at .later [] _ _ _ _ VersionKeeps.said (fun _ h => by cases h) (by as_aux_lemma => kernel_rfl) (fun _ h => by cases h) versionKeeps_row_tie rfl ⟨rfl, rfl⟩ (by as_aux_lemma => kernel_rfl) rfl VersionKeeps.plain (by as_aux_lemma => kernel_rfl)
end Go.Proofs.YthlbbjcbmojocabGreatDoor
