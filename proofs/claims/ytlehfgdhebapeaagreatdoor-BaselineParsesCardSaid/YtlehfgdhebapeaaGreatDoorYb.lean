/- Entries with lists of their own: one more. -/
import Derived.Test.YtlehfgdhebapeaaGreatDoorYa
set_option linter.all false
namespace Go.Proofs.YtlehfgdhebapeaaGreatDoor.KM
open Go
theorem refs_take (a : List V) (k : Nat) : ∀ i ∈ refsL (a.take k), i ∈ refsL a := by
  intro i hi
  have := refs_app (a.take k) (a.drop k)
  rw [List.take_append_drop] at this
  rw [this]
  exact List.mem_append_left _ hi
theorem refs_drop (a : List V) (k : Nat) : ∀ i ∈ refsL (a.drop k), i ∈ refsL a := by
  intro i hi
  have := refs_app (a.take k) (a.drop k)
  rw [List.take_append_drop] at this
  rw [this]
  exact List.mem_append_right _ hi
theorem gw_app_cln {σ σ' : St} {m e lo bytes : Nat} {u u' y : V} {xs ys : List (List V)} (h : GW σ m e lo u xs) (hy : srcRows σ m y = some ys) (ha : appV bytes (m, e) u y σ = some (u', σ')) (hx : ∀ i ∈ refsL xs.flatten, i < σ.length) (hz : ∀ i ∈ refsL ys.flatten, i < σ.length) (hc : Cl σ) : Cl σ' := by
  unfold appV at ha
  simp only [hy, Option.bind_some] at ha
  unfold appR at ha
  split at ha
  · rcases h with ⟨rfl, rfl⟩ | ⟨hn, i, g, rfl, ho, hlo⟩
    · simp only at ha
      split at ha
      · split at ha
        · cases ha; exact hc
        · cases ha; exact cl_push hc fun i hi => Nat.lt_succ_of_lt (hz i hi)
      · cases ha
    · simp only at ha
      split at ha
      · simp only [ho, if_true] at ha
        split at ha
        · cases ha; exact hc
        · split at ha
          · split at ha
            · cases ha
              refine cl_set hc fun j hj => ?_
              simp only [Ob.refs, refs_app, List.mem_append] at hj
              rcases hj with (hj | hj) | hj
              · exact hx j (refs_take _ _ j hj)
              · exact hz j hj
              · exact hx j (refs_drop _ _ j hj)
            · split at ha
              · cases ha
                refine cl_set hc fun j hj => ?_
                simp only [Ob.refs, refs_app, List.mem_append] at hj
                rcases hj with hj | hj
                · exact hx j hj
                · exact hz j hj
              · cases ha
          · cases ha
      · cases ha
  · cases ha
/-- a list of another type stays when a list grows -/
theorem gw_other {s s' : St} {m m' e e' lo' n : Nat} {u w : V} {ys : List (List V)} (he : e ≠ e') (hu : u = .nils ∨ ∃ i g cs, u = .sl i g 0 n m true ∧ s[i]? = some (.row cs e g 0)) (h : GW s m' e' lo' w ys) (hf : ∀ j, (∀ i g, u = .sl i g 0 n m true → j ≠ i) → j < s.length → s'[j]? = s[j]?) : GW s' m' e' lo' w ys := by
  rcases h with h | ⟨hn, j, g, rfl, ho, hlo⟩
  · exact .inl h
  · refine .inr ⟨hn, j, g, rfl, ?_, hlo⟩
    rw [hf j ?_ (List.getElem?_eq_some_iff.1 ho).1]
    · exact ho
    · rintro i g' rfl rfl
      rcases hu with hu | ⟨i, g2, cs, hu, hs⟩
      · cases hu
      · cases hu
        rw [hs] at ho
        cases ho
        exact he rfl
theorem gw_shape {s : St} {m e lo : Nat} {u : V} {xs : List (List V)} (h : GW s m e lo u xs) : u = .nils ∨ ∃ i g cs, u = .sl i g 0 xs.length m true ∧ s[i]? = some (.row cs e g 0) := by
  rcases h with ⟨rfl, -⟩ | ⟨-, i, g, rfl, ho, -⟩
  · exact .inl rfl
  · exact .inr ⟨i, g, _, rfl, ho⟩
/-! copies of entries, with lists of their own -/
end Go.Proofs.YtlehfgdhebapeaaGreatDoor.KM
