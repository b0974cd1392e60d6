/- The law VersionSelf returns true of every pair of versions: every site of a program corresponds to itself. Conditions: none beside the row's own. -/
import Derived.Test.YthlbbjcbmojocabGreatDoorCkVSelf
set_option linter.all false
namespace Go.Proofs.YthlbbjcbmojocabGreatDoor
open Go.ChangeShapes Go.WideShapes Go.ChangeAt Go.RowKit KM
/-- THE CARD: VersionSelf is true of every input. -/
theorem versionSelf_card : Rows.VersionSelfCardSaid :=
  Claim7.holds_tied_plain_at .later [] _ _ _ _ VersionSelf.said (fun _ h => by cases h) (by as_aux_lemma => kernel_rfl) (fun _ h => by cases h) versionSelf_row_tie rfl ⟨rfl, rfl⟩ (by as_aux_lemma => kernel_rfl) rfl VersionSelf.plain (by as_aux_lemma => kernel_rfl)
end Go.Proofs.YthlbbjcbmojocabGreatDoor
