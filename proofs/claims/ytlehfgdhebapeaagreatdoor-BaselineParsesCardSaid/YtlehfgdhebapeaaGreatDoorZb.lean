/- Walks: Insert, scene.Entries and scene.Baseline, the sites of their entries being lists of their own. -/
import Derived.Test.YtlehfgdhebapeaaGreatDoorZa
set_option linter.all false
namespace Go.Proofs.YtlehfgdhebapeaaGreatDoor.KM
open Go
theorem owns_eq {L : List (V × Ent)} {l : List Ent} (h : L.map (·.2) = l) (ho : ∀ x ∈ l, x.own = x) : ownL L = l.map Ent.row := by
  subst h
  unfold ownL
  rw [List.map_map]
  refine List.map_congr_left fun p hp => ?_
  show p.2.own.row = p.2.row
  rw [ho p.2 (List.mem_map_of_mem hp)]
end Go.Proofs.YtlehfgdhebapeaaGreatDoor.KM
