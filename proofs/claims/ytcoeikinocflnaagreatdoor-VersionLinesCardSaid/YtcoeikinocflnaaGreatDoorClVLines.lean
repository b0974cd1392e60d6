/- The law VersionLines returns true of every two lists of bytes: version.Match and the reference interleaveref39.Match give the same in programs of assignments only. Conditions: none beside the row's own. -/
import Derived.Test.YtcoeikinocflnaaGreatDoorCkVLines
set_option linter.all false
namespace Go.Proofs.YtcoeikinocflnaaGreatDoor
open Go.ChangeShapes Go.WideShapes Go.ChangeAt Go.RowKit KM
theorem versionLines_card:Rows.VersionLinesCardSaid:=
 Claim7.holds_tied_plain_at .later [] _ _ _ _ VersionLines.said (fun _ h=>by cases h) (by as_aux_lemma=>kernel_rfl) (fun _ h=>by cases h) versionLines_row_tie rfl ⟨rfl,rfl⟩ (by as_aux_lemma=>kernel_rfl) rfl VersionLines.plain (by as_aux_lemma=>kernel_rfl)
end Go.Proofs.YtcoeikinocflnaaGreatDoor
