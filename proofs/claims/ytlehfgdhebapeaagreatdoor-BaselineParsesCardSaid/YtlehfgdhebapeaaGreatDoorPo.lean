/- Walks: Compare and Update of baselines, whole. -/
import Derived.Test.YtlehfgdhebapeaaGreatDoorPl
set_option linter.all false
namespace Go.Proofs.YtlehfgdhebapeaaGreatDoor.KM
open Go
theorem valid_parts {n : Int} {l : List Ent} (h : validB n l = true) : l.length ≤ 64 ∧ Asc l ∧ (∀ x ∈ l, okV x) ∧ 0 ≤ n ∧ n ≤ 1073741824 := by
  unfold validB at h
  simp only [Bool.and_eq_true, decide_eq_true_eq] at h
  exact ⟨h.1.2, validL_asc h.2, validL_ent h.2, h.1.1.1, h.1.1.2⟩
theorem cl_rows {cs ds : List V} {a b : Nat} (h1 : cs.all V.rowB = true) (h2 : ds.all V.rowB = true) : Cl [.row cs a 0 0, .row ds b 0 0] := by
  intro ob hob i hi
  simp only [List.mem_cons, List.not_mem_nil, or_false] at hob
  rcases hob with rfl | rfl
  · simp [Ob.refs, refsL_row h1] at hi
  · simp [Ob.refs, refsL_row h2] at hi
/-! a further run -/
theorem gw_len {σ : St} {m e lo : Nat} {u : V} {xs : List (List V)} (h : GW σ m e lo u xs) : lenV u = some (.int .i64 (xs.length : Int)) := by
  rcases h with ⟨rfl, rfl⟩ | ⟨hn, i, g, rfl, ho, hlo⟩ <;> rfl
end Go.Proofs.YtlehfgdhebapeaaGreatDoor.KM
