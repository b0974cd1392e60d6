/- Objects that a pure function keeps; joined states. -/
import Derived.Test.YticpkkjnajmpoaaGreatDoorPl
set_option linter.all false
namespace Go.Proofs.YticpkkjnajmpoaaGreatDoor.KM
open Go
theorem cl_nil : Cl [] := fun _ h => by cases h
/-- a pure function, with all the objects that it has made -/
theorem fno_all {T : Nat → Option AF} {pr : Nat → Option (List V → Option V)} {f p : Nat} {res : List AR} {body : AC} {vs : List V} {v : V} {σ' : St} (hT : T f = some ⟨p, res, false, body, none⟩) (hl : vs.length = p)
    (h : W T pr [.c body] (parEnv 0 vs) [] (Hd fun e' σ1 => resV e' σ1 res = some v ∧ σ1 = σ')) (hr : ∀ i ∈ v.refs, i < σ'.length) (ho : okRes v = true) (hc : Cl σ') : FnO T pr f vs v σ' := by
  obtain ⟨F, h1, h2, h3⟩ := ThP_all hT hl h hr ho (Nat.zero_le _) hc
  have e := h1.symm.trans hT
  cases e
  exact ⟨_, hT, rfl, rfl, h3⟩
theorem ren_rows (ρ : Nat → Nat) (cs : List V) (h : cs.all V.rowB = true) : renL ρ cs = cs := renL_same ρ cs (by rw [refsL_row h]; simp)
theorem own_nil {σ : St} {args : List V} (h : refsL args = []) (σ0 : St) : own σ args σ0 = σ ++ σ0.map (Ob.ren (· + σ.length)) := by
  unfold own
  rw [jsOf_nil h]
  rfl
theorem gw_own {σ σ' σ0 : St} {m e : Nat} {u : V} {xs : List (List V)} (h : GW σ0 m e 0 u xs) (hr : ∀ r ∈ xs, r.all V.rowB = true) (hl : σ'.length = σ.length) : GW (σ' ++ σ0.map (Ob.ren (· + σ.length))) m e σ.length (u.ren (· + σ.length)) xs := by
  rcases h with ⟨rfl, rfl⟩ | ⟨hn, i, g, rfl, ho, hlo⟩
  · exact .inl ⟨rfl, rfl⟩
  · refine .inr ⟨hn, i + σ.length, g, rfl, ?_, by omega⟩
    rw [List.getElem?_append_right (by omega), hl, Nat.add_sub_cancel, List.getElem?_map, ho]
    simp only [Option.map_some, Ob.ren]
    rw [ren_rows _ _ (rows_all hr)]
theorem gw_okres {σ : St} {m e lo : Nat} {u : V} {xs : List (List V)} (h : GW σ m e lo u xs) : okRes u = true := by
  rcases h with ⟨rfl, rfl⟩ | ⟨hn, i, g, rfl, ho, hlo⟩ <;> rfl
mutual
theorem refs_ren (ρ : Nat → Nat) : ∀ v : V, (v.ren ρ).refs = v.refs.map ρ
  | .ptr i g o => rfl
  | .sl i g o l m w => rfl
  | .mp i => rfl
  | .fn f a c => by simp only [V.ren, V.refs, refsL_ren ρ a, refsL_ren ρ c, List.map_append]
  | .agg cs => by simp only [V.ren, V.refs, refsL_ren ρ cs]
  | .tup cs => by simp only [V.ren, V.refs, refsL_ren ρ cs]
  | .und => rfl
  | .skp => rfl
  | .bool _ => rfl
  | .int _ _ => rfl
  | .str _ => rfl
  | .nili => rfl
  | .ifc => rfl
  | .nils => rfl
  | .nilp => rfl
  | .nilf => rfl
  | .lst _ _ => rfl
  | .imm _ _ => rfl
theorem refsL_ren (ρ : Nat → Nat) : ∀ vs : List V, refsL (renL ρ vs) = (refsL vs).map ρ
  | [] => rfl
  | v :: r => by simp only [renL, refsL, refs_ren ρ v, refsL_ren ρ r, List.map_append]
end
theorem ob_refs_ren (ρ : Nat → Nat) : ∀ o : Ob, (o.ren ρ).refs = o.refs.map ρ
  | .row cs e g z => by simp only [Ob.ren, Ob.refs, refsL_ren]
  | .map kvs => by
    simp only [Ob.ren, Ob.refs, List.map_map]
    induction kvs with
    | nil => rfl
    | cons p l ih => simp only [List.map_cons, refsL, Function.comp_apply, refs_ren, List.map_append, ih]
  | .dead => rfl
theorem cl_join {σ σ0 : St} (h1 : Cl σ) (h2 : Cl σ0) : Cl (σ ++ σ0.map (Ob.ren (· + σ.length))) := by
  intro o ho i hi
  rw [List.length_append, List.length_map]
  rcases List.mem_append.1 ho with ho | ho
  · have := h1 o ho i hi
    omega
  · obtain ⟨o0, h0, rfl⟩ := List.mem_map.1 ho
    rw [ob_refs_ren] at hi
    obtain ⟨k, hk, rfl⟩ := List.mem_map.1 hi
    have := h2 o0 h0 k hk
    show k + σ.length < _
    omega
theorem fno_ex {T : Nat → Option AF} {pr : Nat → Option (List V → Option V)} {f p : Nat} {res : List AR} {body : AC} {vs : List V} {P : V → St → Prop} (hT : T f = some ⟨p, res, false, body, none⟩) (hl : vs.length = p)
    (h : W T pr [.c body] (parEnv 0 vs) [] (Hd fun e' σ1 => ∃ v, resV e' σ1 res = some v ∧ P v σ1)) (hP : ∀ v s, P v s → Cl s ∧ okRes v = true ∧ ∀ i ∈ v.refs, i < s.length) : ∃ v σ', FnO T pr f vs v σ' ∧ P v σ' := by
  obtain ⟨e', σ1, hE, v, h1, h2⟩ := h
  obtain ⟨q1, q2, q3⟩ := hP _ _ h2
  exact ⟨v, σ1, fno_all hT hl ⟨e', σ1, hE, h1, rfl⟩ q3 q2 q1, h2⟩
theorem gw_keep {σ σ' : St} {m e lo : Nat} {u : V} {xs : List (List V)} (h : GW σ m e lo u xs) (hk : ∀ j, j < σ.length → σ'[j]? = σ[j]?) : GW σ' m e lo u xs := by
  rcases h with h | ⟨hn, i, g, h, ho, hlo⟩
  · exact .inl h
  · exact .inr ⟨hn, i, g, h, (hk i (List.getElem?_eq_some_iff.1 ho).1).trans ho, hlo⟩
theorem gw_lo {σ : St} {m e lo lo2 : Nat} {u : V} {xs : List (List V)} (h : GW σ m e lo u xs) (hl : lo2 ≤ lo) : GW σ m e lo2 u xs := by
  rcases h with h | ⟨hn, i, g, h, ho, hlo⟩
  · exact .inl h
  · exact .inr ⟨hn, i, g, h, ho, by omega⟩
theorem gw_named {σ : St} {m e lo : Nat} {u : V} {xs : List (List V)} (h : GW σ m e lo u xs) (hx : refsL xs.flatten = []) : ∀ i ∈ u.refs, lo ≤ i ∧ ∀ ob, σ[i]? = some ob → ob.refs = [] := by
  rcases h with ⟨rfl, rfl⟩ | ⟨hn, i, g, rfl, ho, hlo⟩
  · intro i hi; simp [V.refs] at hi
  · intro j hj
    simp [V.refs] at hj
    subst hj
    refine ⟨hlo, fun ob hob => ?_⟩
    rw [ho] at hob
    cases hob
    exact hx
theorem clo_flat {σ : St} {js : List Nat} (h : ∀ i ∈ js, ∀ ob, σ[i]? = some ob → ob.refs = []) : ∀ d, clo σ d js = js
  | 0 => rfl
  | d + 1 => by
    simp only [clo]
    rw [if_pos]
    rw [List.isEmpty_iff, List.filter_eq_nil_iff]
    intro k hk
    obtain ⟨i, hi, hk⟩ := List.mem_flatMap.1 hk
    split at hk
    · rename_i ob ho
      rw [h i hi ob ho] at hk
      cases hk
    · cases hk
theorem freeze_keep : ∀ (js : List Nat) (σ : St) (j : Nat), j ∉ js → (σ.freeze js)[j]? = σ[j]?
  | [], _, _, _ => rfl
  | i :: js, σ, j, h => by
    simp only [List.mem_cons, not_or] at h
    simp only [St.freeze]
    split
    · rw [freeze_keep js _ j h.2, List.getElem?_set_ne (by omega)]
    · exact freeze_keep js σ j h.2
theorem freeze_cl : ∀ (js : List Nat) (σ : St), Cl σ → Cl (σ.freeze js)
  | [], _, h => h
  | i :: js, σ, h => by
    simp only [St.freeze]
    split
    · rename_i ob ho
      refine freeze_cl js _ (cl_set h fun k hk => h ob (List.mem_of_getElem? ho) k ?_)
      cases ob <;> exact hk
    · exact freeze_cl js σ h
end Go.Proofs.YticpkkjnajmpoaaGreatDoor.KM
