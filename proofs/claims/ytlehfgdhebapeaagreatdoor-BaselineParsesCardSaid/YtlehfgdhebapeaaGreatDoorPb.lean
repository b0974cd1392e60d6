/- The law BaselineLess, walked. -/
import Derived.Test.YtlehfgdhebapeaaGreatDoorPa
import Derived.Test.YtlehfgdhebapeaaGreatDoorA5
import Derived.Test.YtlehfgdhebapeaaGreatDoorNw
set_option linter.all false
namespace Go.Proofs.YtlehfgdhebapeaaGreatDoor.KM
open Go
theorem krows_len (l : List Key) : ∀ r ∈ l.map krow, r.length = 3 := by
  intro r hr
  obtain ⟨k, _, rfl⟩ := List.mem_map.1 hr
  rfl
theorem krows_row (l : List Key) : ∀ r ∈ l.map krow, r.all V.rowB = true := by
  intro r hr
  obtain ⟨k, _, rfl⟩ := List.mem_map.1 hr
  rfl
theorem ent_set (x : Ent) : setC (.agg x.row) = true := by
  have := sl_row x.z x.t (x.sites.map krow)
  simp only [go_sem, Ent.row, Ent.sl]
end Go.Proofs.YtlehfgdhebapeaaGreatDoor.KM
