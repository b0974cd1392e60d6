/- The law VersionLongest returns true of every two lists of bytes: with one statement more at the end of both threads one more site corresponds. Conditions: none beside the row's own. -/
import Derived.Test.YtcoeikinocflnaaGreatDoorCkVLongest
set_option linter.all false
namespace Go.Proofs.YtcoeikinocflnaaGreatDoor
open Go.ChangeShapes Go.WideShapes Go.ChangeAt Go.RowKit KM
theorem versionLongest_card:Rows.VersionLongestCardSaid:=
 Claim7.holds_tied_plain_at .later [] _ _ _ _ VersionLongest.said (fun _ h=>by cases h) (by as_aux_lemma=>kernel_rfl) (fun _ h=>by cases h) versionLongest_row_tie rfl ⟨rfl,rfl⟩ (by as_aux_lemma=>kernel_rfl) rfl VersionLongest.plain (by as_aux_lemma=>kernel_rfl)
end Go.Proofs.YtcoeikinocflnaaGreatDoor
