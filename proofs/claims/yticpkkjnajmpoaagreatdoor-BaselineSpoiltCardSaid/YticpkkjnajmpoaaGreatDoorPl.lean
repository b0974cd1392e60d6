/- Walks: Compare and Update of baselines. -/
import Derived.Test.YticpkkjnajmpoaaGreatDoorPk
set_option linter.all false
namespace Go.Proofs.YticpkkjnajmpoaaGreatDoor.KM
open Go
def crow (c : Int × Ent) : List V := .int .i64 c.1 :: c.2.row
theorem cl_row {s : St} {cs : List V} {t : Nat} (h : Cl s) (hr : cs.all V.rowB = true) : Cl (s ++ [.row cs t 0 0]) := cl_push h (by simp only [Ob.refs, refsL_row hr]; simp)
/-- entries that may be in a baseline -/
def okV (x : Ent) : Prop := entB x = true
theorem okV_len {x : Ent} (h : okV x) : x.sites.length ≤ 9223372036854775807 := by have := entB_len h; omega
theorem okV_ne {x : Ent} (h : okV x) : x.sites ≠ [] := by
  have := entB_len h
  intro e
  rw [e] at this
  simp at this
structure Icmp (n0 ob : Nat) (base : St) (d : List (Option Ent × Option Ent)) (s : St) : Prop where
  cl : Cl s
  len : n0 ≤ s.length
  lst : ∃ u, s[ob]? = some (.row [u] 50 0 0) ∧ GW s 5 59 (ob + 1) u ((d.map chg).map crow)
  old : ∀ j, j < ob → s[j]? = base[j]?
end Go.Proofs.YticpkkjnajmpoaaGreatDoor.KM
