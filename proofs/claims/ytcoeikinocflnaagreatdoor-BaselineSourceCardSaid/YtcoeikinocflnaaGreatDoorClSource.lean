/- The law BaselineSource returns true of every list of bytes and all numbers: the lines and keys of every program of a source text with one change are those of the reference. Conditions: none beside the row's own. -/
import Derived.Test.YtcoeikinocflnaaGreatDoorCkSource
set_option linter.all false
namespace Go.Proofs.YtcoeikinocflnaaGreatDoor
open Go.ChangeShapes Go.WideShapes Go.ChangeAt Go.RowKit KM
/-- THE CARD: BaselineSource is true of every input. -/
theorem baselineSource_card : Rows.BaselineSourceCardSaid :=
  Claim7.holds_tied_plain_at .later [] _ _ _ _ BaselineSource.said (fun _ h => by cases h) (by as_aux_lemma => kernel_rfl) (fun _ h => by cases h) baselineSource_row_tie rfl ⟨rfl, rfl⟩ (by as_aux_lemma => kernel_rfl) rfl BaselineSource.plain (by as_aux_lemma => kernel_rfl)
end Go.Proofs.YtcoeikinocflnaaGreatDoor
