/- Lists whose rows name lists of their own. -/
import Derived.Test.YtlehfgdhebapeaaGreatDoorYz
set_option linter.all false
namespace Go.Proofs.YtlehfgdhebapeaaGreatDoor.KM
open Go
/-- a slice of an object whose cells may name objects -/
def Near (σ : St) (v : V) (js : List Nat) : Prop := ∀ i ∈ v.refs, i ∈ js ∧ ∀ ob, σ[i]? = some ob → ∀ j ∈ ob.refs, j ∈ js
def ON (σ : St) (v v' : V) : Prop := ∀ js : List Nat, Near σ v js → ∀ d, settle σ js (d + 3) v = some v'
def OW (σ : St) (v v' : V) : Prop := ∀ js : List Nat, Near σ v js → settle1 σ js v = some v'
inductive ONs (σ : St) : List V → List V → Prop
  | nil : ONs σ [] []
  | cons {v v' : V} {vs vs' : List V} : ON σ v v' → ONs σ vs vs' → ONs σ (v :: vs) (v' :: vs')
inductive OWs (σ : St) : List V → List V → Prop
  | nil : OWs σ [] []
  | cons {v v' : V} {vs vs' : List V} : OW σ v v' → OWs σ vs vs' → OWs σ (v :: vs) (v' :: vs')
theorem on_oc {σ : St} {v v' : V} (h : OC σ v v') : ON σ v v' := fun js hj d => h js (fun i hi => (hj i hi).1) (d + 1)
theorem ow_ov {σ : St} {v v' : V} (h : OV σ v v') : OW σ v v' := fun js hj => h js fun i hi => (hj i hi).1
theorem on_sl {σ : St} {i g m e z : Nat} {w : Bool} {xs xs' : List (List V)} (ho : σ[i]? = some (.row xs.flatten e g z)) (hm : 0 < m) (hl : ∀ r ∈ xs, r.length = m) (hc : OCs σ xs.flatten xs'.flatten) (hl' : ∀ r ∈ xs', r.length = m) (hn : xs'.length = xs.length) :
    ON σ (.sl i g 0 xs.length m w) (.lst 0 xs') := by
  intro js hj d
  have hi : js.elem i = true := by
    have := (hj i (by simp [V.refs])).1
    simpa using this
  have hin : ∀ j ∈ refsL xs.flatten, j ∈ js := (hj i (by simp [V.refs])).2 _ ho
  have hf := flatL_len hl
  unfold settle
  rw [if_neg (by simp [V.rowB])]
  simp only [hi, if_true, ho]
  rw [if_pos ⟨trivial, hm, by omega⟩, List.drop_zero, ← hf, List.take_length, ocs_map hc hin]
  simp only [Option.map_some, ← hn, chopL_flat hl']
theorem ons_map {σ : St} {js : List Nat} {d : Nat} : ∀ {vs vs' : List V}, ONs σ vs vs' → (∀ v ∈ vs, Near σ v js) → vs.mapM (settle σ js (d + 3)) = some vs'
  | _, _, .nil, _ => rfl
  | _, _, .cons h hs, hj => by
    rw [List.mapM_cons, h js (hj _ List.mem_cons_self) d, ons_map hs fun v hv => hj v (List.mem_cons_of_mem _ hv)]
    rfl
theorem ows_map {σ : St} {js : List Nat} : ∀ {vs vs' : List V}, OWs σ vs vs' → (∀ v ∈ vs, Near σ v js) → vs.mapM (settle1 σ js) = some vs'
  | _, _, .nil, _ => rfl
  | _, _, .cons h hs, hj => by
    rw [List.mapM_cons, h js (hj _ List.mem_cons_self), ows_map hs fun v hv => hj v (List.mem_cons_of_mem _ hv)]
    rfl
theorem refs_in : ∀ {cs : List V} {c : V}, c ∈ cs → ∀ i ∈ c.refs, i ∈ refsL cs
  | _ :: cs, c, h, i, hi => by
    simp only [refsL, List.mem_append]
    rcases List.mem_cons.1 h with rfl | h
    · exact .inl hi
    · exact .inr (refs_in h i hi)
theorem ow_agg {σ : St} {cs cs' : List V} (h : ONs σ cs cs') : OW σ (.agg cs) (.agg cs') := fun js hj => by
  simp only [settle1]
  rw [ons_map (d := 6) h fun v hv i hi => hj i (refs_in hv i hi)]
  rfl
/-- what is named is gathered, and what that names -/
theorem clo_near (σ : St) : ∀ (d : Nat) (js : List Nat) (i : Nat), i ∈ js → ∀ ob, σ[i]? = some ob → ∀ j ∈ ob.refs, j ∈ clo σ (d + 1) js := by
  intro d js i hi ob ho j hj
  simp only [clo]
  by_cases hjs : j ∈ js
  · split
    · exact hjs
    · exact cloL_sub σ d _ j (List.mem_append_left _ hjs)
  · have hnew : j ∈ (js.flatMap fun i => match σ[i]? with
      | some ob => ob.refs
      | none => []).filter fun i => !js.elem i := by
      rw [List.mem_filter]
      refine ⟨List.mem_flatMap.2 ⟨i, hi, ?_⟩, ?_⟩
      · rw [ho]; exact hj
      · simpa using hjs
    rw [if_neg (by
      intro hh
      exact List.eq_nil_iff_forall_not_mem.1 (List.isEmpty_iff.1 hh) j hnew)]
    exact cloL_sub σ d _ j (List.mem_append_right _ (List.mem_eraseDups.2 hnew))
theorem near_clo {σ : St} {v : V} {js : List Nat} (h : ∀ i ∈ v.refs, i ∈ js) : Near σ v (clo σ 9 js) := fun i hi => ⟨cloL_sub σ 9 _ i (h i hi), fun ob ho j hj => clo_near σ 8 js i (h i hi) ob ho j hj⟩
theorem over_ow {σ : St} {vs vs' : List V} (h : OWs σ vs vs') : over σ vs = some vs' := ows_map h fun v hv => near_clo fun i hi => List.mem_eraseDups.2 (refs_in hv i hi)
/-- a pure function's own result, settled -/
theorem fn_of_own {T : Nat → Option AF} {pr : Nat → Option (List V → Option V)} {f : Nat} {vs us us' : List V} {σ0 : St} (h : FnO T pr f vs (.tup us) σ0) (ho : OWs σ0 us us') : Fn T pr f vs (.tup us') := by
  obtain ⟨F, h1, h2, h3, h4⟩ := h
  refine ⟨F, h1, h2, h3, _, _, h4, ?_⟩
  unfold back settleV
  simp only
  rw [ows_map ho fun v hv => near_clo fun i hi => List.mem_eraseDups.2 (by simp only [V.refs]; exact refs_in hv i hi)]
  rfl
/-! entries whose sites are lists of their own -/
def nrow (p : V × Ent) : List V := [.int .i64 p.2.kind, p.1, .int .i64 p.2.seen, .int .i64 p.2.missed]
def ownL (L : List (V × Ent)) : List (List V) := L.map fun p => p.2.own.row
theorem nrows_len (L : List (V × Ent)) : ∀ r ∈ L.map nrow, r.length = 4 := by
  intro r hr
  obtain ⟨p, -, rfl⟩ := List.mem_map.1 hr
  rfl
theorem ownL_len (L : List (V × Ent)) : ∀ r ∈ ownL L, r.length = 4 := by
  intro r hr
  obtain ⟨p, -, rfl⟩ := List.mem_map.1 hr
  rfl
section
variable {Q : Env → St → Prop} {e : Env} {σ : St} {k : List It} {l : List AI} {kill : List Nat} {f : Nat} {args vs : List V} {v : V} {d : Option Nat}
theorem wx_ow (hx : OWs σ args vs) (hf : Fn TT PT f vs v) (hfl : v.flatV = true) (h : WR TT PT l kill k (e.putO d v) σ Q) : WX TT PT (.call f args) d l kill k e σ Q :=
  wx_call (.pure (over_ow hx) hf) (by unfold after; rw [if_pos hfl]; exact h)
end
end Go.Proofs.YtlehfgdhebapeaaGreatDoor.KM
