/- Walks: the law BaselineFull. -/
import Derived.Test.YticpkkjnajmpoaaGreatDoorPx
set_option linter.all false
namespace Go.Proofs.YticpkkjnajmpoaaGreatDoor.KM
open Go
theorem updRes_ok {n : Int} {b now : List Ent} : ∀ x ∈ (updRes n b now).2.1, okV x := by
  unfold updRes
  split
  · rename_i hv
    simp only [Bool.and_eq_true] at hv
    obtain ⟨b1, b2, b3, b4, b5⟩ := valid_parts hv.1
    obtain ⟨c1, c2, c3, c4, c5⟩ := valid_parts hv.2
    split
    · intro x hx; cases hx
    · exact updL_okV b2 c2 b3 c3
  · intro x hx; cases hx
theorem updRes_len {n : Int} {b now : List Ent} : (updRes n b now).2.1.length ≤ 1000000 := by
  unfold updRes
  split
  · split
    · simp
    · rename_i h
      show (updL b now).length ≤ 1000000
      omega
  · simp
/-- a list of entries, in an object that may be settled, or a settled one -/
def NW (σ : St) (u : V) (l : List Ent) : Prop := (∃ i g z, u = .sl i g 0 (l.map Ent.row).length 4 true ∧ σ[i]? = some (.row (l.map Ent.row).flatten 32 g z) ∧ 1 ≤ i) ∨ ∃ z t, u = SL z t (l.map Ent.row)
theorem nw_push {σ J : St} {u : V} {l : List Ent} (h : NW σ u l) : NW (σ ++ J) u l := by
  rcases h with ⟨i, g, z, h1, h2, h3⟩ | h
  · exact .inl ⟨i, g, z, h1, get_app_some h2, h3⟩
  · exact .inr h
theorem nw_ov {σ : St} {u : V} {l : List Ent} (h : NW σ u l) : ∃ z t, ∀ J : St, OV (σ ++ J) u (SL z t (l.map Ent.row)) := by
  rcases h with ⟨i, g, z, rfl, h2, h3⟩ | ⟨z, t, rfl⟩
  · refine ⟨false, 0, fun J => ?_⟩
    have : SL false 0 (l.map Ent.row) = .lst 0 (l.map Ent.row) := by simp [SL]
    rw [this]
    exact ov_cell (oc_sl (get_app_some h2) (by omega) (erows_len l) (erows_row l)) rfl
  · exact ⟨z, t, fun J => ov_set (sl_set ..)⟩
theorem nw_refs {σ : St} {u : V} {l : List Ent} (h : NW σ u l) {args : List V} {v : V} (ha : refsL args = u.refs) : ∃ σ', after σ args v = σ' ∧ σ'.length = σ.length ∧ (∀ j, j ∉ u.refs → σ'[j]? = σ[j]?) ∧ NW σ' u l := by
  refine ⟨_, rfl, ?_⟩
  unfold after
  split
  · exact ⟨rfl, fun _ _ => rfl, h⟩
  · rcases h with ⟨i, g, z, rfl, h2, h3⟩ | ⟨z, t, rfl⟩
    · have : jsOf σ args = [i] := by
        unfold jsOf
        rw [ha]
        have e1 : (V.refs (.sl i g 0 (l.map Ent.row).length 4 true)).eraseDups = [i] := by simp [V.refs, List.eraseDups_cons]
        rw [e1]
        simp [clo, h2, Ob.refs, ents_refs]
      rw [this]
      refine ⟨freeze_one_len σ i, fun j hj => freeze_one σ i j (by simpa [V.refs] using hj), .inl ⟨i, g, (l.map Ent.row).flatten.length, rfl, ?_, h3⟩⟩
      simp only [St.freeze, h2]
      rw [List.getElem?_set_self (List.getElem?_eq_some_iff.1 h2).1]
      rfl
    · have : jsOf σ args = [] := by
        unfold jsOf
        rw [ha, rowB_refs (sl_row ..)]
        rfl
      rw [this]
      exact ⟨rfl, fun _ _ => rfl, .inr ⟨z, t, rfl⟩⟩
theorem nw_lt {σ : St} {u : V} {l : List Ent} (h : NW σ u l) : ∀ i ∈ u.refs, 1 ≤ i ∧ i < σ.length := by
  rcases h with ⟨i, g, z, rfl, h2, h3⟩ | ⟨z, t, rfl⟩
  · intro j hj
    simp [V.refs] at hj
    subst hj
    exact ⟨h3, (List.getElem?_eq_some_iff.1 h2).1⟩
  · rw [rowB_refs (sl_row ..)]
    intro j hj
    simp at hj
end Go.Proofs.YticpkkjnajmpoaaGreatDoor.KM
