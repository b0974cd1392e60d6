/- Plain: baselines made of items are valid; what an update gives; comparing behind it. -/
import Derived.Test.YticpkkjnajmpoaaGreatDoorPo
set_option linter.all false
namespace Go.Proofs.YticpkkjnajmpoaaGreatDoor.KM
open Go
theorem keyOf_ok (n : Nat) : keyB (keyOf n) = true := by
  have h3 : n / 9 % 3 < 3 := Nat.mod_lt _ (by omega)
  have a1 : isNameE [109, 97, 105, 110] = true := by decide +kernel
  have a2 : isNameE [116, 49] = true := by decide +kernel
  have a3 : isNameE [65, 95, 57] = true := by decide +kernel
  have b1 : textB [120, 32, 61, 32, 49, 59] = true := by decide +kernel
  have b2 : textB [120, 32, 61, 32, 40, 97, 32, 43, 32, 49, 41, 59] = true := by decide +kernel
  have b3 : textB [108, 111, 99, 107, 32, 109, 32, 123] = true := by decide +kernel
  have k1 : isNameE (keyOf n).1 = true := by
    simp only [keyOf]
    split
    · exact a1
    · split
      · exact a2
      · exact a3
  have k2 : textB (keyOf n).2.1 = true := by
    simp only [keyOf]
    split
    · exact b1
    · split
      · exact b2
      · exact b3
  unfold keyB
  rw [k1, k2, decide_eq_true (show 0 ≤ (keyOf n).2.2 by simp only [keyOf]; omega), decide_eq_true (show (keyOf n).2.2 < 60 by simp only [keyOf]; omega)]
  rfl
theorem item_okV (x : Item) : okV x.ent := by
  have hn := nOf_le x.kind
  have hs := ent_sites x
  have hk : x.ent.sites.all keyB = true := by
    rw [List.all_eq_true]
    intro k hk
    simp only [Item.ent, List.mem_map] at hk
    obtain ⟨m, _, rfl⟩ := hk
    exact keyOf_ok m
  have hnum : numB x.ent = true := num_yes (by simp only [Item.ent]; omega) (by simp only [Item.ent]; omega) (by simp only [Item.ent]; omega) (by simp only [Item.ent]; omega)
  have hkd : kindB x.ent.kind x.ent.sites.length = true := by
    rw [hs]
    refine kind_t ?_
    have : x.kind % 4 < 4 := Nat.mod_lt _ (by omega)
    have h5 : x.kind / 4 % 3 < 3 := Nat.mod_lt _ (by omega)
    simp only [Item.ent, nOf]
    split
    · omega
    · split
      · omega
      · split <;> omega
  unfold okV entB
  rw [hkd, hk, hnum]
  rfl
theorem pre_valid (l : List Item) (n : Int) (h0 : 0 ≤ n) (h1 : n ≤ 1073741824) : validB n (preE l 20) = true := by
  obtain ⟨a1, a2, a3⟩ := preE_inv l 20
  unfold validB
  rw [decide_eq_true h0, decide_eq_true h1, decide_eq_true (show (preE l 20).length ≤ 64 by omega), validL_of a2 fun x hx => by
    obtain ⟨y, _, rfl⟩ := a3 x hx
    exact item_okV y]
  rfl
theorem valid_of {n : Int} {l : List Ent} (h0 : 0 ≤ n) (h1 : n ≤ 1073741824) (h2 : l.length ≤ 64) (h3 : Asc l) (h4 : ∀ x ∈ l, okV x) : validB n l = true := by
  unfold validB
  rw [decide_eq_true h0, decide_eq_true h1, decide_eq_true h2, validL_of h3 h4]
  rfl
theorem okV_set {x : Ent} (h : okV x) (seen missed : Int) (h1 : 1 ≤ seen) (h2 : seen ≤ 1073741824) (h3 : 0 ≤ missed) (h4 : missed ≤ 7) : okV { x.own with seen := seen, missed := missed } := by
  unfold okV entB at h ⊢
  simp only [Bool.and_eq_true] at h ⊢
  exact ⟨h.1, num_yes h1 h2 h3 h4⟩
theorem upd_okV {a b : List Ent} (ha : ∀ x ∈ a, okV x) (hb : ∀ x ∈ b, okV x) {p : Option Ent × Option Ent} (hp : From a b p) {x : Ent} (hx : upd p = some x) : okV x := by
  rcases hp with ⟨z, hz, rfl, _⟩ | ⟨z, hz, rfl, _⟩ | ⟨z, hz, u, hu, rfl, _⟩
  · have hn := okV_num (ha z hz)
    rw [upd_l] at hx
    split at hx
    · cases hx
      exact okV_set (ha z hz) z.seen _ (by omega) (by omega) (by omega) (by omega)
    · cases hx
  · cases hx
    exact okV_set (hb z hz) _ _ (by omega) (by omega) (by omega) (by omega)
  · have hn := okV_num (ha z hz)
    cases hx
    exact okV_set (ha z hz) _ _ (by omega) (by omega) (by omega) (by omega)
theorem updL_okV {a b : List Ent} (h1 : Asc a) (h2 : Asc b) (ha : ∀ x ∈ a, okV x) (hb : ∀ x ∈ b, okV x) : ∀ x ∈ updL a b, okV x := fun x hx => by
  obtain ⟨p, hp, hu⟩ := List.mem_filterMap.1 hx
  exact upd_okV ha hb (merge_mem a b h1 h2 p hp) hu
theorem updL_len (a b : List Ent) : (updL a b).length ≤ a.length + b.length := Nat.le_trans (List.length_filterMap_le ..) (merge_len a b)
/-- what is known after an update -/
theorem upd_mem {b now : List Ent} (hb : Asc b) (hn : Asc now) {x : Ent} (hx : x ∈ updL b now) : ((∃ y ∈ now, y.ks = x.ks) ∧ x.missed = 0) ∨ ((∀ y ∈ now, y.ks ≠ x.ks) ∧ ∃ z ∈ b, x.missed = z.missed + 1) := by
  obtain ⟨p, hp, hu⟩ := List.mem_filterMap.1 hx
  rcases merge_mem b now hb hn p hp with ⟨z, hz, rfl, h⟩ | ⟨z, hz, rfl, h⟩ | ⟨z, hz, u, hu2, rfl, hk⟩
  · rw [upd_l] at hu
    split at hu
    · cases hu
      exact .inr ⟨h, z, hz, rfl⟩
    · cases hu
  · cases hu
    exact .inl ⟨⟨z, hz, rfl⟩, rfl⟩
  · cases hu
    exact .inl ⟨⟨u, hu2, hk.symm⟩, rfl⟩
theorem upd_has {b now : List Ent} (hb : Asc b) (hn : Asc now) {y : Ent} (hy : y ∈ now) : ∃ x ∈ updL b now, x.ks = y.ks := by
  obtain ⟨p, hp, e⟩ := merge_r b now y hy
  rcases merge_mem b now hb hn p hp with ⟨z, hz, rfl, h⟩ | ⟨z, hz, rfl, h⟩ | ⟨z, hz, u, hu2, rfl, hk⟩
  · cases e
  · cases e
    exact ⟨_, List.mem_filterMap.2 ⟨_, hp, rfl⟩, rfl⟩
  · cases e
    exact ⟨_, List.mem_filterMap.2 ⟨_, hp, rfl⟩, hk⟩
theorem merge_snd : ∀ (a b : List Ent), (mergeE a b).filterMap (·.2) = b
  | [], b => by
    simp only [mergeE, List.filterMap_map]
    exact List.filterMap_some
  | x :: a, [] => by
    simp only [mergeE, List.filterMap_map]
    exact List.filterMap_eq_nil_iff.2 fun _ _ => rfl
  | x :: a, y :: b => by
    have h1 := merge_snd a (y :: b)
    have h2 := merge_snd a b
    have h3 := merge_snd (x :: a) b
    rw [mergeE]
    split
    · rw [List.filterMap_cons]; exact h1
    · split
      · rw [List.filterMap_cons]; simp only; rw [h2]
      · rw [List.filterMap_cons]; simp only; rw [h3]
termination_by a b => a.length + b.length
/-- comparing with what was just stored: known ones, and others that were missed -/
theorem settle_each {b now : List Ent} (hb : Asc b) (hn : Asc now) (hv : ∀ x ∈ b, okV x) {p : Option Ent × Option Ent} (hp : p ∈ mergeE (updL b now) now) : ((chg p).1 = 2 ∧ p.2.isSome = true) ∨ ((chg p).1 = 4 ∧ 1 ≤ (chg p).2.missed ∧ p.2.isSome = false) := by
  rcases merge_mem _ now (updL_asc hb hn) hn p hp with ⟨z, hz, rfl, h⟩ | ⟨z, hz, rfl, h⟩ | ⟨z, hz, u, hu2, rfl, hk⟩
  · refine .inr ⟨rfl, ?_, rfl⟩
    rcases upd_mem hb hn hz with ⟨⟨y, hy, hk⟩, _⟩ | ⟨_, w, hw, hm⟩
    · exact absurd hk (h y hy)
    · have := okV_num (hv w hw)
      show 1 ≤ z.missed
      omega
  · obtain ⟨x, hx, hk⟩ := upd_has hb hn hz
    exact absurd hk (h x hx)
  · refine .inl ⟨?_, rfl⟩
    rcases upd_mem hb hn hz with ⟨_, hm⟩ | ⟨h, _⟩
    · show (if z.missed = 0 then 2 else 3) = 2
      rw [if_pos hm]
    · exact absurd hk.symm (h u hu2)
theorem settle_count {b now : List Ent} (hb : Asc b) (hn : Asc now) (hv : ∀ x ∈ b, okV x) : ((mergeE (updL b now) now).map chg).countP (fun c => c.1 == 2) = now.length := by
  have h1 := congrArg List.length (merge_snd (updL b now) now)
  rw [← h1, List.countP_map]
  have : ∀ l : List (Option Ent × Option Ent), (∀ p ∈ l, p ∈ mergeE (updL b now) now) → l.countP ((fun c : Int × Ent => c.1 == 2) ∘ chg) = (l.filterMap (·.2)).length := by
    intro l
    induction l with
    | nil => intro _; rfl
    | cons p l ih =>
      intro hl
      have ih' := ih fun q hq => hl q (List.mem_cons_of_mem _ hq)
      rw [List.countP_cons, List.filterMap_cons, ih']
      rcases settle_each hb hn hv (hl p List.mem_cons_self) with ⟨e1, e2⟩ | ⟨e1, _, e2⟩
      · obtain ⟨y, hy⟩ := Option.isSome_iff_exists.1 e2
        simp [e1, hy]
      · have hy : p.2 = none := by simpa using e2
        simp [e1, hy]
  exact this _ fun _ h => h
end Go.Proofs.YticpkkjnajmpoaaGreatDoor.KM
