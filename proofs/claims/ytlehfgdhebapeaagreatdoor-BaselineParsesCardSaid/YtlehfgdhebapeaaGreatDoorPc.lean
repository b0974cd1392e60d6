/- Walks: lists of entries. -/
import Derived.Test.YtlehfgdhebapeaaGreatDoorPb
import Derived.Test.YtlehfgdhebapeaaGreatDoorA5
set_option linter.all false
namespace Go.Proofs.YtlehfgdhebapeaaGreatDoor.KM
open Go
@[go_sem] theorem ent_def (x : Ent) : x.row = [.int .i64 x.kind, x.sl, .int .i64 x.seen, .int .i64 x.missed] := hide rfl
@[go_sem] theorem ents_row (x : Ent) : x.sl.rowB = true := sl_row ..
@[go_sem] theorem ents_cell (x : Ent) : x.sl.cellB = true := sl_cell ..
@[go_sem] theorem ents_cells (x : Ent) : x.sl.cells = [x.sl] := sl_cells ..
@[go_sem] theorem ents_set (x : Ent) : setC x.sl = true := sl_set ..
@[go_sem] theorem ents_len (x : Ent) : lenV x.sl = some (.int .i64 (x.sites.length : Int)) := (sl_len ..).trans (by rw [List.length_map])
@[go_sem] theorem ents_rows (x : Ent) (σ : St) (m : Nat) : srcRows σ m x.sl = some (x.sites.map krow) := sl_rows ..
theorem ent_row (x : Ent) : x.row.all V.rowB = true := ent_set x
def okE (l : List Ent) : Prop := ∀ x ∈ l, x.sites.length ≤ 9223372036854775807
/-- an entry whose list is its own -/
def Ent.own (e : Ent) : Ent := { e with z := true, t := 0 }
end Go.Proofs.YtlehfgdhebapeaaGreatDoor.KM
