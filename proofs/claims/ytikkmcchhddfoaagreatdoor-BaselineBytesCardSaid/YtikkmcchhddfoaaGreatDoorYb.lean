/- Entries with lists of their own: one more. -/
import Derived.Test.YtikkmcchhddfoaaGreatDoorPm
set_option linter.all false
namespace Go.Proofs.YtikkmcchhddfoaaGreatDoor.KM
open Go
theorem refs_take (a : List V) (k : Nat) : ∀ i ∈ refsL (a.take k), i ∈ refsL a := by
  intro i hi
  have := refs_app (a.take k) (a.drop k)
  rw [List.take_append_drop] at this
  rw [this]
  exact List.mem_append_left _ hi
theorem refs_drop (a : List V) (k : Nat) : ∀ i ∈ refsL (a.drop k), i ∈ refsL a := by
  intro i hi
  have := refs_app (a.take k) (a.drop k)
  rw [List.take_append_drop] at this
  rw [this]
  exact List.mem_append_right _ hi
theorem gw_app_cln {σ σ' : St} {m e lo bytes : Nat} {u u' y : V} {xs ys : List (List V)} (h : GW σ m e lo u xs) (hy : srcRows σ m y = some ys) (ha : appV bytes (m, e) u y σ = some (u', σ')) (hx : ∀ i ∈ refsL xs.flatten, i < σ.length) (hz : ∀ i ∈ refsL ys.flatten, i < σ.length) (hc : Cl σ) : Cl σ' := by
  unfold appV at ha
  simp only [hy, Option.bind_some] at ha
  unfold appR at ha
  split at ha
  · rcases h with ⟨rfl, rfl⟩ | ⟨hn, i, g, rfl, ho, hlo⟩
    · simp only at ha
      split at ha
      · split at ha
        · cases ha; exact hc
        · cases ha; exact cl_push hc fun i hi => Nat.lt_succ_of_lt (hz i hi)
      · cases ha
    · simp only at ha
      split at ha
      · simp only [ho, if_true] at ha
        split at ha
        · cases ha; exact hc
        · split at ha
          · split at ha
            · cases ha
              refine cl_set hc fun j hj => ?_
              simp only [Ob.refs, refs_app, List.mem_append] at hj
              rcases hj with (hj | hj) | hj
              · exact hx j (refs_take _ _ j hj)
              · exact hz j hj
              · exact hx j (refs_drop _ _ j hj)
            · split at ha
              · cases ha
                refine cl_set hc fun j hj => ?_
                simp only [Ob.refs, refs_app, List.mem_append] at hj
                rcases hj with hj | hj
                · exact hx j hj
                · exact hz j hj
              · cases ha
          · cases ha
      · cases ha
  · cases ha
/-- a list of another type stays when a list grows -/
theorem gw_other {s s' : St} {m m' e e' lo' n : Nat} {u w : V} {ys : List (List V)} (he : e ≠ e') (hu : u = .nils ∨ ∃ i g cs, u = .sl i g 0 n m true ∧ s[i]? = some (.row cs e g 0)) (h : GW s m' e' lo' w ys) (hf : ∀ j, (∀ i g, u = .sl i g 0 n m true → j ≠ i) → j < s.length → s'[j]? = s[j]?) : GW s' m' e' lo' w ys := by
  rcases h with h | ⟨hn, j, g, rfl, ho, hlo⟩
  · exact .inl h
  · refine .inr ⟨hn, j, g, rfl, ?_, hlo⟩
    rw [hf j ?_ (List.getElem?_eq_some_iff.1 ho).1]
    · exact ho
    · rintro i g' rfl rfl
      rcases hu with hu | ⟨i, g2, cs, hu, hs⟩
      · cases hu
      · cases hu
        rw [hs] at ho
        cases ho
        exact he rfl
theorem gw_shape {s : St} {m e lo : Nat} {u : V} {xs : List (List V)} (h : GW s m e lo u xs) : u = .nils ∨ ∃ i g cs, u = .sl i g 0 xs.length m true ∧ s[i]? = some (.row cs e g 0) := by
  rcases h with ⟨rfl, -⟩ | ⟨-, i, g, rfl, ho, -⟩
  · exact .inl rfl
  · exact .inr ⟨i, g, _, rfl, ho⟩
/-! copies of entries, with lists of their own -/
end Go.Proofs.YtikkmcchhddfoaaGreatDoor.KM
/- Walks: Update of baselines, the sites of its entries being lists of their own. -/
namespace Go.Proofs.YtikkmcchhddfoaaGreatDoor.KM
open Go
theorem gw_keep2 {σ σ' : St} {m e lo : Nat} {u : V} {xs : List (List V)} (h : GW σ m e lo u xs) (hk : ∀ j, lo ≤ j → σ'[j]? = σ[j]?) : GW σ' m e lo u xs := by
  rcases h with h | ⟨hn, i, g, h, ho, hlo⟩
  · exact .inl h
  · exact .inr ⟨hn, i, g, h, (hk i hlo).trans ho, hlo⟩
end Go.Proofs.YtikkmcchhddfoaaGreatDoor.KM
/- Plain: baselines made of items are valid; what an update gives; comparing behind it. -/
namespace Go.Proofs.YtikkmcchhddfoaaGreatDoor.KM
open Go
theorem keyOf_ok (n : Nat) : keyB (keyOf n) = true := by
  have h3 : n / 9 % 3 < 3 := Nat.mod_lt _ (by omega)
  have a1 : isNameE [109, 97, 105, 110] = true := by decide +kernel
  have a2 : isNameE [116, 49] = true := by decide +kernel
  have a3 : isNameE [65, 95, 57] = true := by decide +kernel
  have b1 : textB [120, 32, 61, 32, 49, 59] = true := by decide +kernel
  have b2 : textB [120, 32, 61, 32, 40, 97, 32, 43, 32, 49, 41, 59] = true := by decide +kernel
  have b3 : textB [108, 111, 99, 107, 32, 109, 32, 123] = true := by decide +kernel
  have k1 : isNameE (keyOf n).1 = true := by
    simp only [keyOf]
    split
    · exact a1
    · split
      · exact a2
      · exact a3
  have k2 : textB (keyOf n).2.1 = true := by
    simp only [keyOf]
    split
    · exact b1
    · split
      · exact b2
      · exact b3
  unfold keyB
  rw [k1, k2, decide_eq_true (show 0 ≤ (keyOf n).2.2 by simp only [keyOf]; omega), decide_eq_true (show (keyOf n).2.2 < 60 by simp only [keyOf]; omega)]
  rfl
theorem item_okV (x : Item) : okV x.ent := by
  have hn := nOf_le x.kind
  have hs := ent_sites x
  have hk : x.ent.sites.all keyB = true := by
    rw [List.all_eq_true]
    intro k hk
    simp only [Item.ent, List.mem_map] at hk
    obtain ⟨m, _, rfl⟩ := hk
    exact keyOf_ok m
  have hnum : numB x.ent = true := num_yes (by simp only [Item.ent]; omega) (by simp only [Item.ent]; omega) (by simp only [Item.ent]; omega) (by simp only [Item.ent]; omega)
  have hkd : kindB x.ent.kind x.ent.sites.length = true := by
    rw [hs]
    refine kind_t ?_
    have : x.kind % 4 < 4 := Nat.mod_lt _ (by omega)
    have h5 : x.kind / 4 % 3 < 3 := Nat.mod_lt _ (by omega)
    simp only [Item.ent, nOf]
    split
    · omega
    · split
      · omega
      · split <;> omega
  unfold okV entB
  rw [hkd, hk, hnum]
  rfl
theorem pre_valid (l : List Item) (n : Int) (h0 : 0 ≤ n) (h1 : n ≤ 1073741824) : validB n (preE l 20) = true := by
  obtain ⟨a1, a2, a3⟩ := preE_inv l 20
  unfold validB
  rw [decide_eq_true h0, decide_eq_true h1, decide_eq_true (show (preE l 20).length ≤ 64 by omega), validL_of a2 fun x hx => by
    obtain ⟨y, _, rfl⟩ := a3 x hx
    exact item_okV y]
  rfl
end Go.Proofs.YtikkmcchhddfoaaGreatDoor.KM
