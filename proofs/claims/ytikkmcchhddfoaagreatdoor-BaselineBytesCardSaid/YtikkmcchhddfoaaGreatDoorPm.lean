/- Lists of entries that are merged: plain. -/
import Derived.Test.YtikkmcchhddfoaaGreatDoorPd
import Derived.Test.YtikkmcchhddfoaaGreatDoorPi
import Derived.Test.YtikkmcchhddfoaaGreatDoorA5
set_option linter.all false
namespace Go.Proofs.YtikkmcchhddfoaaGreatDoor.KM
open Go
/-! entries that are added one by one -/
/-! changes -/
/-! a further run -/
end Go.Proofs.YtikkmcchhddfoaaGreatDoor.KM
/- Walks: copies of entries, merging. -/
namespace Go.Proofs.YtikkmcchhddfoaaGreatDoor.KM
open Go
theorem sl_ne2 {z : Bool} {t : Nat} {xs : List (List V)} (h : xs ≠ []) : SL z t xs = .lst t xs := by simp [SL, h]
theorem app_e1 {σ : St} {m e bytes : Nat} {y : V} {ys : List (List V)} (hy : srcRows σ m y = some ys) (hn : ys ≠ []) (hm : 0 < m) (hl : ∀ r ∈ ys, r.length = m) (hb : ys.length * bytes ≤ 140737488355328) :
    appV bytes (m, e) (.lst 1 []) y σ = some (.sl σ.length 0 0 ys.length m true, σ ++ [.row ys.flatten e 0 0]) := by
  have hall : (ys.all fun r => r.length == m) = true := by
    rw [List.all_eq_true]
    intro r hr
    simp [hl r hr]
  have he : ys.isEmpty = false := by simpa using hn
  unfold appV
  simp only [hy, Option.bind_some]
  unfold appR
  simp only
  rw [if_pos ⟨hall, hm⟩]
  simp [he, hb]
/-- a threaded function, by what it leaves -/
theorem th_ex {T : Nat → Option AF} {pr : Nat → Option (List V → Option V)} {f p : Nat} {res : List AR} {body : AC} {vs : List V} {v : V} {σ : St} {P : St → Prop} (hT : T f = some ⟨p, res, true, body, none⟩) (hl : vs.length = p)
    (h : W T pr [.c body] (parEnv 0 vs) σ (Hd fun e' σ1 => resV e' σ1 res = some v ∧ P σ1)) (hr : v.refs = []) (ho : okRes v = true) (hP : ∀ s, P s → Cl s ∧ σ.length ≤ s.length) : ∃ σ', Th T pr f vs σ v σ' ∧ P σ' := by
  obtain ⟨e', σ1, hE, h1, h2⟩ := h
  exact ⟨σ1, Th_all hT hl ⟨e', σ1, hE, h1, rfl⟩ hr ho (hP _ h2).2 (hP _ h2).1, h2⟩
end Go.Proofs.YtikkmcchhddfoaaGreatDoor.KM
/- Walks: Compare and Update of baselines. -/
namespace Go.Proofs.YtikkmcchhddfoaaGreatDoor.KM
open Go
theorem cl_row {s : St} {cs : List V} {t : Nat} (h : Cl s) (hr : cs.all V.rowB = true) : Cl (s ++ [.row cs t 0 0]) := cl_push h (by simp only [Ob.refs, refsL_row hr]; simp)
/-- entries that may be in a baseline -/
def okV (x : Ent) : Prop := entB x = true
theorem okV_len {x : Ent} (h : okV x) : x.sites.length ≤ 9223372036854775807 := by have := entB_len h; omega
end Go.Proofs.YtikkmcchhddfoaaGreatDoor.KM
/- Walks: Compare and Update of baselines, whole. -/
namespace Go.Proofs.YtikkmcchhddfoaaGreatDoor.KM
open Go
theorem valid_parts {n : Int} {l : List Ent} (h : validB n l = true) : l.length ≤ 64 ∧ Asc l ∧ (∀ x ∈ l, okV x) ∧ 0 ≤ n ∧ n ≤ 1073741824 := by
  unfold validB at h
  simp only [Bool.and_eq_true, decide_eq_true_eq] at h
  exact ⟨h.1.2, validL_asc h.2, validL_ent h.2, h.1.1.1, h.1.1.2⟩
theorem cl_rows {cs ds : List V} {a b : Nat} (h1 : cs.all V.rowB = true) (h2 : ds.all V.rowB = true) : Cl [.row cs a 0 0, .row ds b 0 0] := by
  intro ob hob i hi
  simp only [List.mem_cons, List.not_mem_nil, or_false] at hob
  rcases hob with rfl | rfl
  · simp [Ob.refs, refsL_row h1] at hi
  · simp [Ob.refs, refsL_row h2] at hi
/-! a further run -/
theorem gw_len {σ : St} {m e lo : Nat} {u : V} {xs : List (List V)} (h : GW σ m e lo u xs) : lenV u = some (.int .i64 (xs.length : Int)) := by
  rcases h with ⟨rfl, rfl⟩ | ⟨hn, i, g, rfl, ho, hlo⟩ <;> rfl
end Go.Proofs.YtikkmcchhddfoaaGreatDoor.KM
/- Objects that a pure function keeps; joined states. -/
namespace Go.Proofs.YtikkmcchhddfoaaGreatDoor.KM
open Go
theorem cl_nil : Cl [] := fun _ h => by cases h
/-- a pure function, with all the objects that it has made -/
theorem fno_all {T : Nat → Option AF} {pr : Nat → Option (List V → Option V)} {f p : Nat} {res : List AR} {body : AC} {vs : List V} {v : V} {σ' : St} (hT : T f = some ⟨p, res, false, body, none⟩) (hl : vs.length = p)
    (h : W T pr [.c body] (parEnv 0 vs) [] (Hd fun e' σ1 => resV e' σ1 res = some v ∧ σ1 = σ')) (hr : ∀ i ∈ v.refs, i < σ'.length) (ho : okRes v = true) (hc : Cl σ') : FnO T pr f vs v σ' := by
  obtain ⟨F, h1, h2, h3⟩ := ThP_all hT hl h hr ho (Nat.zero_le _) hc
  have e := h1.symm.trans hT
  cases e
  exact ⟨_, hT, rfl, rfl, h3⟩
theorem ren_rows (ρ : Nat → Nat) (cs : List V) (h : cs.all V.rowB = true) : renL ρ cs = cs := renL_same ρ cs (by rw [refsL_row h]; simp)
theorem own_nil {σ : St} {args : List V} (h : refsL args = []) (σ0 : St) : own σ args σ0 = σ ++ σ0.map (Ob.ren (· + σ.length)) := by
  unfold own
  rw [jsOf_nil h]
  rfl
theorem gw_own {σ σ' σ0 : St} {m e : Nat} {u : V} {xs : List (List V)} (h : GW σ0 m e 0 u xs) (hr : ∀ r ∈ xs, r.all V.rowB = true) (hl : σ'.length = σ.length) : GW (σ' ++ σ0.map (Ob.ren (· + σ.length))) m e σ.length (u.ren (· + σ.length)) xs := by
  rcases h with ⟨rfl, rfl⟩ | ⟨hn, i, g, rfl, ho, hlo⟩
  · exact .inl ⟨rfl, rfl⟩
  · refine .inr ⟨hn, i + σ.length, g, rfl, ?_, by omega⟩
    rw [List.getElem?_append_right (by omega), hl, Nat.add_sub_cancel, List.getElem?_map, ho]
    simp only [Option.map_some, Ob.ren]
    rw [ren_rows _ _ (rows_all hr)]
theorem gw_okres {σ : St} {m e lo : Nat} {u : V} {xs : List (List V)} (h : GW σ m e lo u xs) : okRes u = true := by
  rcases h with ⟨rfl, rfl⟩ | ⟨hn, i, g, rfl, ho, hlo⟩ <;> rfl
mutual
theorem refs_ren (ρ : Nat → Nat) : ∀ v : V, (v.ren ρ).refs = v.refs.map ρ
  | .ptr i g o => rfl
  | .sl i g o l m w => rfl
  | .mp i => rfl
  | .fn f a c => by simp only [V.ren, V.refs, refsL_ren ρ a, refsL_ren ρ c, List.map_append]
  | .agg cs => by simp only [V.ren, V.refs, refsL_ren ρ cs]
  | .tup cs => by simp only [V.ren, V.refs, refsL_ren ρ cs]
  | .und => rfl
  | .skp => rfl
  | .bool _ => rfl
  | .int _ _ => rfl
  | .str _ => rfl
  | .nili => rfl
  | .ifc => rfl
  | .nils => rfl
  | .nilp => rfl
  | .nilf => rfl
  | .lst _ _ => rfl
  | .imm _ _ => rfl
theorem refsL_ren (ρ : Nat → Nat) : ∀ vs : List V, refsL (renL ρ vs) = (refsL vs).map ρ
  | [] => rfl
  | v :: r => by simp only [renL, refsL, refs_ren ρ v, refsL_ren ρ r, List.map_append]
end
theorem ob_refs_ren (ρ : Nat → Nat) : ∀ o : Ob, (o.ren ρ).refs = o.refs.map ρ
  | .row cs e g z => by simp only [Ob.ren, Ob.refs, refsL_ren]
  | .map kvs => by
    simp only [Ob.ren, Ob.refs, List.map_map]
    induction kvs with
    | nil => rfl
    | cons p l ih => simp only [List.map_cons, refsL, Function.comp_apply, refs_ren, List.map_append, ih]
  | .dead => rfl
theorem cl_join {σ σ0 : St} (h1 : Cl σ) (h2 : Cl σ0) : Cl (σ ++ σ0.map (Ob.ren (· + σ.length))) := by
  intro o ho i hi
  rw [List.length_append, List.length_map]
  rcases List.mem_append.1 ho with ho | ho
  · have := h1 o ho i hi
    omega
  · obtain ⟨o0, h0, rfl⟩ := List.mem_map.1 ho
    rw [ob_refs_ren] at hi
    obtain ⟨k, hk, rfl⟩ := List.mem_map.1 hi
    have := h2 o0 h0 k hk
    show k + σ.length < _
    omega
theorem fno_ex {T : Nat → Option AF} {pr : Nat → Option (List V → Option V)} {f p : Nat} {res : List AR} {body : AC} {vs : List V} {P : V → St → Prop} (hT : T f = some ⟨p, res, false, body, none⟩) (hl : vs.length = p)
    (h : W T pr [.c body] (parEnv 0 vs) [] (Hd fun e' σ1 => ∃ v, resV e' σ1 res = some v ∧ P v σ1)) (hP : ∀ v s, P v s → Cl s ∧ okRes v = true ∧ ∀ i ∈ v.refs, i < s.length) : ∃ v σ', FnO T pr f vs v σ' ∧ P v σ' := by
  obtain ⟨e', σ1, hE, v, h1, h2⟩ := h
  obtain ⟨q1, q2, q3⟩ := hP _ _ h2
  exact ⟨v, σ1, fno_all hT hl ⟨e', σ1, hE, h1, rfl⟩ q3 q2 q1, h2⟩
theorem gw_lo {σ : St} {m e lo lo2 : Nat} {u : V} {xs : List (List V)} (h : GW σ m e lo u xs) (hl : lo2 ≤ lo) : GW σ m e lo2 u xs := by
  rcases h with h | ⟨hn, i, g, h, ho, hlo⟩
  · exact .inl h
  · exact .inr ⟨hn, i, g, h, ho, by omega⟩
theorem gw_named {σ : St} {m e lo : Nat} {u : V} {xs : List (List V)} (h : GW σ m e lo u xs) (hx : refsL xs.flatten = []) : ∀ i ∈ u.refs, lo ≤ i ∧ ∀ ob, σ[i]? = some ob → ob.refs = [] := by
  rcases h with ⟨rfl, rfl⟩ | ⟨hn, i, g, rfl, ho, hlo⟩
  · intro i hi; simp [V.refs] at hi
  · intro j hj
    simp [V.refs] at hj
    subst hj
    refine ⟨hlo, fun ob hob => ?_⟩
    rw [ho] at hob
    cases hob
    exact hx
theorem clo_flat {σ : St} {js : List Nat} (h : ∀ i ∈ js, ∀ ob, σ[i]? = some ob → ob.refs = []) : ∀ d, clo σ d js = js
  | 0 => rfl
  | d + 1 => by
    simp only [clo]
    rw [if_pos]
    rw [List.isEmpty_iff, List.filter_eq_nil_iff]
    intro k hk
    obtain ⟨i, hi, hk⟩ := List.mem_flatMap.1 hk
    split at hk
    · rename_i ob ho
      rw [h i hi ob ho] at hk
      cases hk
    · cases hk
theorem freeze_keep : ∀ (js : List Nat) (σ : St) (j : Nat), j ∉ js → (σ.freeze js)[j]? = σ[j]?
  | [], _, _, _ => rfl
  | i :: js, σ, j, h => by
    simp only [List.mem_cons, not_or] at h
    simp only [St.freeze]
    split
    · rw [freeze_keep js _ j h.2, List.getElem?_set_ne (by omega)]
    · exact freeze_keep js σ j h.2
theorem freeze_cl : ∀ (js : List Nat) (σ : St), Cl σ → Cl (σ.freeze js)
  | [], _, h => h
  | i :: js, σ, h => by
    simp only [St.freeze]
    split
    · rename_i ob ho
      refine freeze_cl js _ (cl_set h fun k hk => h ob (List.mem_of_getElem? ho) k ?_)
      cases ob <;> exact hk
    · exact freeze_cl js σ h
end Go.Proofs.YtikkmcchhddfoaaGreatDoor.KM
/- Lists whose rows name lists of their own. -/
namespace Go.Proofs.YtikkmcchhddfoaaGreatDoor.KM
open Go
/-- a slice of an object whose cells may name objects -/
def Near (σ : St) (v : V) (js : List Nat) : Prop := ∀ i ∈ v.refs, i ∈ js ∧ ∀ ob, σ[i]? = some ob → ∀ j ∈ ob.refs, j ∈ js
def ON (σ : St) (v v' : V) : Prop := ∀ js : List Nat, Near σ v js → ∀ d, settle σ js (d + 3) v = some v'
def OW (σ : St) (v v' : V) : Prop := ∀ js : List Nat, Near σ v js → settle1 σ js v = some v'
inductive ONs (σ : St) : List V → List V → Prop
  | nil : ONs σ [] []
  | cons {v v' : V} {vs vs' : List V} : ON σ v v' → ONs σ vs vs' → ONs σ (v :: vs) (v' :: vs')
inductive OWs (σ : St) : List V → List V → Prop
  | nil : OWs σ [] []
  | cons {v v' : V} {vs vs' : List V} : OW σ v v' → OWs σ vs vs' → OWs σ (v :: vs) (v' :: vs')
theorem on_oc {σ : St} {v v' : V} (h : OC σ v v') : ON σ v v' := fun js hj d => h js (fun i hi => (hj i hi).1) (d + 1)
theorem ow_ov {σ : St} {v v' : V} (h : OV σ v v') : OW σ v v' := fun js hj => h js fun i hi => (hj i hi).1
theorem on_sl {σ : St} {i g m e z : Nat} {w : Bool} {xs xs' : List (List V)} (ho : σ[i]? = some (.row xs.flatten e g z)) (hm : 0 < m) (hl : ∀ r ∈ xs, r.length = m) (hc : OCs σ xs.flatten xs'.flatten) (hl' : ∀ r ∈ xs', r.length = m) (hn : xs'.length = xs.length) :
    ON σ (.sl i g 0 xs.length m w) (.lst 0 xs') := by
  intro js hj d
  have hi : js.elem i = true := by
    have := (hj i (by simp [V.refs])).1
    simpa using this
  have hin : ∀ j ∈ refsL xs.flatten, j ∈ js := (hj i (by simp [V.refs])).2 _ ho
  have hf := flatL_len hl
  unfold settle
  rw [if_neg (by simp [V.rowB])]
  simp only [hi, if_true, ho]
  rw [if_pos ⟨trivial, hm, by omega⟩, List.drop_zero, ← hf, List.take_length, ocs_map hc hin]
  simp only [Option.map_some, ← hn, chopL_flat hl']
theorem ons_map {σ : St} {js : List Nat} {d : Nat} : ∀ {vs vs' : List V}, ONs σ vs vs' → (∀ v ∈ vs, Near σ v js) → vs.mapM (settle σ js (d + 3)) = some vs'
  | _, _, .nil, _ => rfl
  | _, _, .cons h hs, hj => by
    rw [List.mapM_cons, h js (hj _ List.mem_cons_self) d, ons_map hs fun v hv => hj v (List.mem_cons_of_mem _ hv)]
    rfl
theorem ows_map {σ : St} {js : List Nat} : ∀ {vs vs' : List V}, OWs σ vs vs' → (∀ v ∈ vs, Near σ v js) → vs.mapM (settle1 σ js) = some vs'
  | _, _, .nil, _ => rfl
  | _, _, .cons h hs, hj => by
    rw [List.mapM_cons, h js (hj _ List.mem_cons_self), ows_map hs fun v hv => hj v (List.mem_cons_of_mem _ hv)]
    rfl
theorem refs_in : ∀ {cs : List V} {c : V}, c ∈ cs → ∀ i ∈ c.refs, i ∈ refsL cs
  | _ :: cs, c, h, i, hi => by
    simp only [refsL, List.mem_append]
    rcases List.mem_cons.1 h with rfl | h
    · exact .inl hi
    · exact .inr (refs_in h i hi)
theorem ow_agg {σ : St} {cs cs' : List V} (h : ONs σ cs cs') : OW σ (.agg cs) (.agg cs') := fun js hj => by
  simp only [settle1]
  rw [ons_map (d := 6) h fun v hv i hi => hj i (refs_in hv i hi)]
  rfl
/-- what is named is gathered, and what that names -/
theorem clo_near (σ : St) : ∀ (d : Nat) (js : List Nat) (i : Nat), i ∈ js → ∀ ob, σ[i]? = some ob → ∀ j ∈ ob.refs, j ∈ clo σ (d + 1) js := by
  intro d js i hi ob ho j hj
  simp only [clo]
  by_cases hjs : j ∈ js
  · split
    · exact hjs
    · exact cloL_sub σ d _ j (List.mem_append_left _ hjs)
  · have hnew : j ∈ (js.flatMap fun i => match σ[i]? with
      | some ob => ob.refs
      | none => []).filter fun i => !js.elem i := by
      rw [List.mem_filter]
      refine ⟨List.mem_flatMap.2 ⟨i, hi, ?_⟩, ?_⟩
      · rw [ho]; exact hj
      · simpa using hjs
    rw [if_neg (by
      intro hh
      exact List.eq_nil_iff_forall_not_mem.1 (List.isEmpty_iff.1 hh) j hnew)]
    exact cloL_sub σ d _ j (List.mem_append_right _ (List.mem_eraseDups.2 hnew))
theorem near_clo {σ : St} {v : V} {js : List Nat} (h : ∀ i ∈ v.refs, i ∈ js) : Near σ v (clo σ 9 js) := fun i hi => ⟨cloL_sub σ 9 _ i (h i hi), fun ob ho j hj => clo_near σ 8 js i (h i hi) ob ho j hj⟩
theorem over_ow {σ : St} {vs vs' : List V} (h : OWs σ vs vs') : over σ vs = some vs' := ows_map h fun v hv => near_clo fun i hi => List.mem_eraseDups.2 (refs_in hv i hi)
/-- a pure function's own result, settled -/
theorem fn_of_own {T : Nat → Option AF} {pr : Nat → Option (List V → Option V)} {f : Nat} {vs us us' : List V} {σ0 : St} (h : FnO T pr f vs (.tup us) σ0) (ho : OWs σ0 us us') : Fn T pr f vs (.tup us') := by
  obtain ⟨F, h1, h2, h3, h4⟩ := h
  refine ⟨F, h1, h2, h3, _, _, h4, ?_⟩
  unfold back settleV
  simp only
  rw [ows_map ho fun v hv => near_clo fun i hi => List.mem_eraseDups.2 (by simp only [V.refs]; exact refs_in hv i hi)]
  rfl
/-! entries whose sites are lists of their own -/
def nrow (p : V × Ent) : List V := [.int .i64 p.2.kind, p.1, .int .i64 p.2.seen, .int .i64 p.2.missed]
def ownL (L : List (V × Ent)) : List (List V) := L.map fun p => p.2.own.row
theorem nrows_len (L : List (V × Ent)) : ∀ r ∈ L.map nrow, r.length = 4 := by
  intro r hr
  obtain ⟨p, -, rfl⟩ := List.mem_map.1 hr
  rfl
theorem ownL_len (L : List (V × Ent)) : ∀ r ∈ ownL L, r.length = 4 := by
  intro r hr
  obtain ⟨p, -, rfl⟩ := List.mem_map.1 hr
  rfl
section
variable {Q : Env → St → Prop} {e : Env} {σ : St} {k : List It} {l : List AI} {kill : List Nat} {f : Nat} {args vs : List V} {v : V} {d : Option Nat}
theorem wx_ow (hx : OWs σ args vs) (hf : Fn TT PT f vs v) (hfl : v.flatV = true) (h : WR TT PT l kill k (e.putO d v) σ Q) : WX TT PT (.call f args) d l kill k e σ Q :=
  wx_call (.pure (over_ow hx) hf) (by unfold after; rw [if_pos hfl]; exact h)
end
end Go.Proofs.YtikkmcchhddfoaaGreatDoor.KM
