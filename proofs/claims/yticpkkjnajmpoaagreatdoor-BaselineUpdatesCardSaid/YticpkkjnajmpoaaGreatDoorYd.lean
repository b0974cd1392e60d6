/- Walks: the law BaselineUpdates, its parts. -/
import Derived.Test.YticpkkjnajmpoaaGreatDoorPy
import Derived.Test.YticpkkjnajmpoaaGreatDoorPz
import Derived.Test.YticpkkjnajmpoaaGreatDoorYc
set_option linter.all false
namespace Go.Proofs.YticpkkjnajmpoaaGreatDoor.KM
open Go
def renP (k : Nat) (p : V × Ent) : V × Ent := (p.1.ren (· + k), p.2)
theorem renL_nrow (k : Nat) : ∀ L : List (V × Ent), renL (· + k) (L.map nrow).flatten = ((L.map (renP k)).map nrow).flatten
  | [] => rfl
  | p :: L => by
    have := renL_nrow k L
    simp only [List.map_cons, List.flatten_cons, nrow, List.cons_append, List.nil_append, renL, V.ren, renP]
    rw [this]
theorem ng_own {σ σ' σ0 : St} {u : V} {L : List (V × Ent)} (h : NG σ0 0 u L) (hl : σ'.length = σ.length) : NG (σ' ++ σ0.map (Ob.ren (· + σ.length))) σ.length (u.ren (· + σ.length)) (L.map (renP σ.length)) := by
  obtain ⟨h1, h2⟩ := h
  refine ⟨?_, fun p hp => ?_⟩
  · rcases h1 with ⟨rfl, h1⟩ | ⟨hn, i, g, rfl, ho, hlo⟩
    · refine .inl ⟨rfl, ?_⟩
      obtain rfl : L = [] := by simpa using h1
      rfl
    · refine .inr ⟨by simpa using hn, i + σ.length, g, by simp [V.ren], ?_, by omega⟩
      rw [List.getElem?_append_right (by omega), hl, Nat.add_sub_cancel, List.getElem?_map, ho]
      simp only [Option.map_some, Ob.ren]
      rw [renL_nrow]
  · obtain ⟨p0, hp0, rfl⟩ := List.mem_map.1 hp
    exact ⟨(h2 p0 hp0).1, gw_own (h2 p0 hp0).2 (krows_row _) hl⟩
/-- what stays while the sites of an updated baseline are written -/
structure UW (s : St) (q m : Nat) (B : Ob) (n1 : Int) (u : V) (lo : Nat) (L : List (V × Ent)) : Prop where
  bef : s[q]? = some B
  out : s[m]? = some (.row [.int .i64 n1, u] 25 0 0)
  lst : GW s 4 32 lo u (L.map nrow)
  sit : ∀ p ∈ L, ∃ rows, rows.length = p.2.sites.length ∧ (∀ r ∈ rows, r.length = 3) ∧ rows ≠ [] ∧ GW s 3 41 lo p.1 rows
theorem uw_of {s : St} {q m lo : Nat} {B : Ob} {n1 : Int} {u : V} {L : List (V × Ent)} (h1 : s[q]? = some B) (h2 : s[m]? = some (.row [.int .i64 n1, u] 25 0 0)) (h : NG s lo u L) : UW s q m B n1 u lo L :=
  ⟨h1, h2, h.1, fun p hp => ⟨p.2.sites.map krow, by simp, krows_len _, by simpa using (h.2 p hp).1, (h.2 p hp).2⟩⟩
theorem nflat_at : ∀ {L : List (V × Ent)} {i : Nat} {p : V × Ent}, L[i]? = some p → (L.map nrow).flatten[i * 4 + 1]? = some p.1
  | p :: L, 0, _, h => by cases h; rfl
  | p :: L, i + 1, q, h => by
    have := nflat_at (L := L) (i := i) (p := q) (by simpa using h)
    simp only [List.map_cons, List.flatten_cons, nrow, List.cons_append, List.nil_append]
    rw [show (i + 1) * 4 + 1 = i * 4 + 1 + 4 by omega]
    simpa using this
theorem chop3 : ∀ (k : Nat) (X : List V), X.length = k * 3 → ∃ rows : List (List V), rows.length = k ∧ (∀ r ∈ rows, r.length = 3) ∧ rows.flatten = X
  | 0, X, hc => ⟨[], rfl, by simp, (List.length_eq_zero_iff.1 (by omega)).symm⟩
  | k + 1, a :: b :: c :: X, hc => by
    obtain ⟨R, z1, z2, z3⟩ := chop3 k X (by simp at hc; omega)
    refine ⟨[a, b, c] :: R, by simp [z1], ?_, by simp [z3]⟩
    intro r hr
    rcases List.mem_cons.1 hr with rfl | hr
    · rfl
    · exact z2 r hr
  | k + 1, [], hc => by simp at hc
  | k + 1, [a], hc => by simp at hc; omega
  | k + 1, [a, b], hc => by simp at hc; omega
/-- one number of one site is written -/
theorem uw_put {s : St} {q m lo : Nat} {B : Ob} {n1 : Int} {u : V} {L : List (V × Ent)} (h : UW s q m B n1 u lo L) (hq : ∀ cs e g z, B = .row cs e g z → e ≠ 41) (hB : ∃ cs e g z, B = .row cs e g z) {p : V × Ent} (hp : p ∈ L) {j : Nat} (hj : j < p.2.sites.length) (v : V) :
    ∃ i g cs cs', p.1 = .sl i g 0 p.2.sites.length 3 true ∧ s[i]? = some (.row cs 41 g 0) ∧ j * 3 + 2 + 1 ≤ cs.length ∧ cs.length = p.2.sites.length * 3 ∧ putAt cs (j * 3 + 2) [v] = some cs' ∧ UW (s.set i (.row cs' 41 g 0)) q m B n1 u lo L := by
  obtain ⟨rows, r1, r2, r3, r4⟩ := h.sit p hp
  rcases r4 with ⟨-, r4⟩ | ⟨-, i, g, e1, ho, hlo⟩
  · exact absurd r4 r3
  have hfl := flatL_len r2
  have hle : j * 3 + 2 + 1 ≤ rows.flatten.length := by omega
  refine ⟨i, g, rows.flatten, rows.flatten.take (j * 3 + 2) ++ [v] ++ rows.flatten.drop (j * 3 + 2 + 1), by rw [e1, r1], ho, hle, by omega, by unfold putAt; rw [if_pos (by simpa using hle)]; rfl, ?_⟩
  have hil := (List.getElem?_eq_some_iff.1 ho).1
  have hne : ∀ {k : Nat} {cs : List V} {e g' z : Nat}, s[k]? = some (.row cs e g' z) → e ≠ 41 → k ≠ i := by
    rintro k cs e g' z hk he rfl
    rw [hk] at ho
    cases ho
    exact he rfl
  obtain ⟨cs0, e0, g0, z0, hB0⟩ := hB
  refine ⟨?_, ?_, ?_, ?_⟩
  · rw [List.getElem?_set_ne (hne (by rw [h.bef, hB0]) (hq _ _ _ _ hB0)).symm]
    exact h.bef
  · rw [List.getElem?_set_ne (hne h.out (by omega)).symm]
    exact h.out
  · rcases h.lst with hl | ⟨hn, i2, g2, e2, ho2, hlo2⟩
    · exact .inl hl
    · exact .inr ⟨hn, i2, g2, e2, by rw [List.getElem?_set_ne (hne ho2 (by omega)).symm]; exact ho2, hlo2⟩
  · intro p2 hp2
    obtain ⟨rows2, t1, t2, t3, t4⟩ := h.sit p2 hp2
    rcases t4 with ⟨t4, t5⟩ | ⟨-, i3, g3, e3, ho3, hlo3⟩
    · exact absurd t5 t3
    by_cases hii : i3 = i
    · subst hii
      have ho4 := ho.symm.trans ho3
      simp only [Option.some.injEq, Ob.row.injEq] at ho4
      obtain ⟨hf, -, hg, -⟩ := ho4
      subst hg
      have hl2 := flatL_len t2
      obtain ⟨rows3, y1, y2, y3⟩ := chop3 rows2.length (rows.flatten.take (j * 3 + 2) ++ [v] ++ rows.flatten.drop (j * 3 + 2 + 1)) (by
        simp only [List.length_append, List.length_take, List.length_drop, List.length_cons, List.length_nil]
        rw [← hf] at hl2
        omega)
      refine ⟨rows3, by omega, y2, fun h0 => ?_, .inr ⟨fun h0 => ?_, i3, g, by rw [e3, y1], by rw [List.getElem?_set_self hil, y3], hlo3⟩⟩
      · rw [h0] at y1
        exact t3 (List.length_eq_zero_iff.1 y1.symm)
      · rw [h0] at y1
        exact t3 (List.length_eq_zero_iff.1 y1.symm)
    · exact ⟨rows2, t1, t2, t3, .inr ⟨t3, i3, g3, e3, by rw [List.getElem?_set_ne (fun h => hii h.symm)]; exact ho3, hlo3⟩⟩
end Go.Proofs.YticpkkjnajmpoaaGreatDoor.KM
