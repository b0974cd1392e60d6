/- The law VersionTexts returns true of every pair of versions, all numbers and every bool: version.Match and the reference interleaveref39.Match give the same corresponding sites in programs of source texts with one change each. Conditions: none beside the row's own. -/
import Derived.Test.YthlbbjcbmojocaaGreatDoorCkVTexts
set_option linter.all false
namespace Go.Proofs.YthlbbjcbmojocaaGreatDoor
open Go.ChangeShapes Go.WideShapes Go.ChangeAt Go.RowKit KM
/-- THE CARD: VersionTexts is true of every input. -/
theorem versionTexts_card : Rows.VersionTextsCardSaid :=
  Claim7.holds_tied_plain_at .later [] _ _ _ _ VersionTexts.said (fun _ h => by cases h) (by as_aux_lemma => kernel_rfl) (fun _ h => by cases h) versionTexts_row_tie rfl ⟨rfl, rfl⟩ (by as_aux_lemma => kernel_rfl) rfl VersionTexts.plain (by as_aux_lemma => kernel_rfl)
end Go.Proofs.YthlbbjcbmojocaaGreatDoor
