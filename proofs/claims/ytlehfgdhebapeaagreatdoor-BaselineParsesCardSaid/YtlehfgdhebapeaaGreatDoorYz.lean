/- Objects that a pure function keeps; joined states. -/
import Derived.Test.YtlehfgdhebapeaaGreatDoorPl
set_option linter.all false
namespace Go.Proofs.YtlehfgdhebapeaaGreatDoor.KM
open Go
/-- a pure function, with all the objects that it has made -/
theorem fno_all {T : Nat → Option AF} {pr : Nat → Option (List V → Option V)} {f p : Nat} {res : List AR} {body : AC} {vs : List V} {v : V} {σ' : St} (hT : T f = some ⟨p, res, false, body, none⟩) (hl : vs.length = p)
    (h : W T pr [.c body] (parEnv 0 vs) [] (Hd fun e' σ1 => resV e' σ1 res = some v ∧ σ1 = σ')) (hr : ∀ i ∈ v.refs, i < σ'.length) (ho : okRes v = true) (hc : Cl σ') : FnO T pr f vs v σ' := by
  obtain ⟨F, h1, h2, h3⟩ := ThP_all hT hl h hr ho (Nat.zero_le _) hc
  have e := h1.symm.trans hT
  cases e
  exact ⟨_, hT, rfl, rfl, h3⟩
mutual
theorem refs_ren (ρ : Nat → Nat) : ∀ v : V, (v.ren ρ).refs = v.refs.map ρ
  | .ptr i g o => rfl
  | .sl i g o l m w => rfl
  | .mp i => rfl
  | .fn f a c => by simp only [V.ren, V.refs, refsL_ren ρ a, refsL_ren ρ c, List.map_append]
  | .agg cs => by simp only [V.ren, V.refs, refsL_ren ρ cs]
  | .tup cs => by simp only [V.ren, V.refs, refsL_ren ρ cs]
  | .und => rfl
  | .skp => rfl
  | .bool _ => rfl
  | .int _ _ => rfl
  | .str _ => rfl
  | .nili => rfl
  | .ifc => rfl
  | .nils => rfl
  | .nilp => rfl
  | .nilf => rfl
  | .lst _ _ => rfl
  | .imm _ _ => rfl
theorem refsL_ren (ρ : Nat → Nat) : ∀ vs : List V, refsL (renL ρ vs) = (refsL vs).map ρ
  | [] => rfl
  | v :: r => by simp only [renL, refsL, refs_ren ρ v, refsL_ren ρ r, List.map_append]
end
theorem fno_ex {T : Nat → Option AF} {pr : Nat → Option (List V → Option V)} {f p : Nat} {res : List AR} {body : AC} {vs : List V} {P : V → St → Prop} (hT : T f = some ⟨p, res, false, body, none⟩) (hl : vs.length = p)
    (h : W T pr [.c body] (parEnv 0 vs) [] (Hd fun e' σ1 => ∃ v, resV e' σ1 res = some v ∧ P v σ1)) (hP : ∀ v s, P v s → Cl s ∧ okRes v = true ∧ ∀ i ∈ v.refs, i < s.length) : ∃ v σ', FnO T pr f vs v σ' ∧ P v σ' := by
  obtain ⟨e', σ1, hE, v, h1, h2⟩ := h
  obtain ⟨q1, q2, q3⟩ := hP _ _ h2
  exact ⟨v, σ1, fno_all hT hl ⟨e', σ1, hE, h1, rfl⟩ q3 q2 q1, h2⟩
theorem gw_lo {σ : St} {m e lo lo2 : Nat} {u : V} {xs : List (List V)} (h : GW σ m e lo u xs) (hl : lo2 ≤ lo) : GW σ m e lo2 u xs := by
  rcases h with h | ⟨hn, i, g, h, ho, hlo⟩
  · exact .inl h
  · exact .inr ⟨hn, i, g, h, ho, by omega⟩
end Go.Proofs.YtlehfgdhebapeaaGreatDoor.KM
