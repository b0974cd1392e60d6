/- Walks: Compare and Update of baselines. -/
import Derived.Test.YtlehfgdhebapeaaGreatDoorPk
set_option linter.all false
namespace Go.Proofs.YtlehfgdhebapeaaGreatDoor.KM
open Go
theorem cl_row {s : St} {cs : List V} {t : Nat} (h : Cl s) (hr : cs.all V.rowB = true) : Cl (s ++ [.row cs t 0 0]) := cl_push h (by simp only [Ob.refs, refsL_row hr]; simp)
/-- entries that may be in a baseline -/
def okV (x : Ent) : Prop := entB x = true
theorem okV_len {x : Ent} (h : okV x) : x.sites.length ≤ 9223372036854775807 := by have := entB_len h; omega
end Go.Proofs.YtlehfgdhebapeaaGreatDoor.KM
