/- Walks: the law BaselineSpoilt. -/
import Derived.Test.YtlehfgdhebapeaaGreatDoorZc
import Derived.Test.YtlehfgdhebapeaaGreatDoorPp
set_option linter.all false
namespace Go.Proofs.YtlehfgdhebapeaaGreatDoor.KM
open Go
theorem get_del : ∀ (e : Env) (ks : List Nat) (n : Nat), (Env.del e ks).get n = if ks.elem n = true then .und else e.get n
  | [], ks, n => by simp [Env.del, Env.get]
  | (m, v) :: r, ks, n => by
    have ih := get_del r ks n
    simp only [Env.del]
    by_cases hm : ks.elem m = true
    · rw [if_pos hm, ih]
      by_cases hn : ks.elem n = true
      · rw [if_pos hn, if_pos hn]
      · rw [if_neg hn, if_neg hn]
        simp only [Env.get]
        rw [if_neg (by rintro rfl; exact hn hm)]
    · rw [if_neg hm]
      simp only [Env.get, ih]
      by_cases hmn : m = n
      · subst hmn
        rw [if_pos rfl, if_neg hm, if_pos rfl]
      · rw [if_neg hmn, if_neg hmn]
theorem gw_set_ty {s : St} {i : Nat} {X : Ob} {cs : List V} {e' g z m e lo : Nat} {u : V} {xs : List (List V)} (h : GW s m e lo u xs) (hs : s[i]? = some (.row cs e' g z)) (he : e' ≠ e) : GW (s.set i X) m e lo u xs := by
  rcases h with h | ⟨hn, j, g', h, ho, hlo⟩
  · exact .inl h
  · refine .inr ⟨hn, j, g', h, ?_, hlo⟩
    rw [List.getElem?_set_ne, ho]
    rintro rfl
    rw [hs] at ho
    cases ho
    exact he rfl
theorem nflat_1 : ∀ {L : List (V × Ent)} {i : Nat} {p : V × Ent}, L[i]? = some p → (L.map nrow).flatten[i * 4 + 1]? = some p.1
  | p :: L, 0, _, h => by cases h; rfl
  | p :: L, i + 1, q, h => by
    have := nflat_1 (L := L) (i := i) (p := q) (by simpa using h)
    simp only [List.map_cons, List.flatten_cons, nrow, List.cons_append, List.nil_append]
    rw [show (i + 1) * 4 + 1 = i * 4 + 1 + 4 by omega]
    simpa using this
theorem lo2_at {cs : List V} {e g z off : Nat} {c : V} (h : cs[off]? = some c) : lo2 (some (.row cs e g z)) g 1 true off = some c := by
  obtain ⟨hl, rfl⟩ := List.getElem?_eq_some_iff.1 h
  rw [lo2_r, if_pos ⟨rfl, by omega⟩, List.drop_eq_getElem_cons hl]
  rfl
end Go.Proofs.YtlehfgdhebapeaaGreatDoor.KM
