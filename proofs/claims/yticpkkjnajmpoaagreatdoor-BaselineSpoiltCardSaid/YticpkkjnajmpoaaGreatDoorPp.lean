/- Plain: baselines made of items are valid; what an update gives; comparing behind it. -/
import Derived.Test.YticpkkjnajmpoaaGreatDoorYc
set_option linter.all false
namespace Go.Proofs.YticpkkjnajmpoaaGreatDoor.KM
open Go
theorem keyOf_ok (n : Nat) : keyB (keyOf n) = true := by
  have h3 : n / 9 % 3 < 3 := Nat.mod_lt _ (by omega)
  have a1 : isNameE [109, 97, 105, 110] = true := by decide +kernel
  have a2 : isNameE [116, 49] = true := by decide +kernel
  have a3 : isNameE [65, 95, 57] = true := by decide +kernel
  have b1 : textB [120, 32, 61, 32, 49, 59] = true := by decide +kernel
  have b2 : textB [120, 32, 61, 32, 40, 97, 32, 43, 32, 49, 41, 59] = true := by decide +kernel
  have b3 : textB [108, 111, 99, 107, 32, 109, 32, 123] = true := by decide +kernel
  have k1 : isNameE (keyOf n).1 = true := by
    simp only [keyOf]
    split
    · exact a1
    · split
      · exact a2
      · exact a3
  have k2 : textB (keyOf n).2.1 = true := by
    simp only [keyOf]
    split
    · exact b1
    · split
      · exact b2
      · exact b3
  unfold keyB
  rw [k1, k2, decide_eq_true (show 0 ≤ (keyOf n).2.2 by simp only [keyOf]; omega), decide_eq_true (show (keyOf n).2.2 < 60 by simp only [keyOf]; omega)]
  rfl
theorem item_okV (x : Item) : okV x.ent := by
  have hn := nOf_le x.kind
  have hs := ent_sites x
  have hk : x.ent.sites.all keyB = true := by
    rw [List.all_eq_true]
    intro k hk
    simp only [Item.ent, List.mem_map] at hk
    obtain ⟨m, _, rfl⟩ := hk
    exact keyOf_ok m
  have hnum : numB x.ent = true := num_yes (by simp only [Item.ent]; omega) (by simp only [Item.ent]; omega) (by simp only [Item.ent]; omega) (by simp only [Item.ent]; omega)
  have hkd : kindB x.ent.kind x.ent.sites.length = true := by
    rw [hs]
    refine kind_t ?_
    have : x.kind % 4 < 4 := Nat.mod_lt _ (by omega)
    have h5 : x.kind / 4 % 3 < 3 := Nat.mod_lt _ (by omega)
    simp only [Item.ent, nOf]
    split
    · omega
    · split
      · omega
      · split <;> omega
  unfold okV entB
  rw [hkd, hk, hnum]
  rfl
theorem pre_valid (l : List Item) (n : Int) (h0 : 0 ≤ n) (h1 : n ≤ 1073741824) : validB n (preE l 20) = true := by
  obtain ⟨a1, a2, a3⟩ := preE_inv l 20
  unfold validB
  rw [decide_eq_true h0, decide_eq_true h1, decide_eq_true (show (preE l 20).length ≤ 64 by omega), validL_of a2 fun x hx => by
    obtain ⟨y, _, rfl⟩ := a3 x hx
    exact item_okV y]
  rfl
theorem okV_set {x : Ent} (h : okV x) (seen missed : Int) (h1 : 1 ≤ seen) (h2 : seen ≤ 1073741824) (h3 : 0 ≤ missed) (h4 : missed ≤ 7) : okV { x.own with seen := seen, missed := missed } := by
  unfold okV entB at h ⊢
  simp only [Bool.and_eq_true] at h ⊢
  exact ⟨h.1, num_yes h1 h2 h3 h4⟩
theorem upd_okV {a b : List Ent} (ha : ∀ x ∈ a, okV x) (hb : ∀ x ∈ b, okV x) {p : Option Ent × Option Ent} (hp : From a b p) {x : Ent} (hx : upd p = some x) : okV x := by
  rcases hp with ⟨z, hz, rfl, _⟩ | ⟨z, hz, rfl, _⟩ | ⟨z, hz, u, hu, rfl, _⟩
  · have hn := okV_num (ha z hz)
    rw [upd_l] at hx
    split at hx
    · cases hx
      exact okV_set (ha z hz) z.seen _ (by omega) (by omega) (by omega) (by omega)
    · cases hx
  · cases hx
    exact okV_set (hb z hz) _ _ (by omega) (by omega) (by omega) (by omega)
  · have hn := okV_num (ha z hz)
    cases hx
    exact okV_set (ha z hz) _ _ (by omega) (by omega) (by omega) (by omega)
theorem updL_okV {a b : List Ent} (h1 : Asc a) (h2 : Asc b) (ha : ∀ x ∈ a, okV x) (hb : ∀ x ∈ b, okV x) : ∀ x ∈ updL a b, okV x := fun x hx => by
  obtain ⟨p, hp, hu⟩ := List.mem_filterMap.1 hx
  exact upd_okV ha hb (merge_mem a b h1 h2 p hp) hu
end Go.Proofs.YticpkkjnajmpoaaGreatDoor.KM
