/- What goes over to a function and comes back of it (second form). -/
import Derived.Test.YticpkkjnajmpoaaGreatDoorKo
set_option linter.all false
namespace Go.Proofs.YticpkkjnajmpoaaGreatDoor.KM
open Go Go.RowKit
variable {P : Program} {G : List (Nat × List V)} {N : Nat} {γ : Gh} {σ : St} {w w' : World}

theorem low1 {κ : Kap} {O : List (Nat × Nat)} {v : V} {u : Value} (h : Rep1 ⟨κ, []⟩ w v u) : Rep1 ⟨κ, O⟩ w v u := by
  have low : ∀ {v : V} {u : Value}, RepC ⟨κ, []⟩ w v u → RepC ⟨κ, O⟩ w v u := fun hr => by
    induction hr with
    | row h => exact .row h
    | imm row h1 h2 h3 h4 => exact .imm row h1 h2 h3 h4
    | ptr h => simp at h
    | sl h => simp at h
    | nilp => exact .nilp
    | nilf => exact .nilf
    | ifc => exact .ifc
    | fn h1 h2 _ _ ih1 ih2 => exact .fn h1 h2 ih1 ih2
    | mp h => simp at h
  cases h with
  | cell h => exact .cell (low h)
  | agg h1 h2 => exact .agg h1 (fun j hj => low (h2 j hj))
theorem lowV {κ : Kap} {O : List (Nat × Nat)} {v : V} {u : Value} (h : RepV ⟨κ, []⟩ w v u) : RepV ⟨κ, O⟩ w v u := by
  cases h with
  | und => exact .und
  | skp => exact .skp
  | one h => exact .one (low1 h)
  | tup h1 h2 => exact .tup h1 (fun j hj => low1 (h2 j hj))

/-- settled copies stand for the same -/
theorem settle1_rep {κ' : Kap} {js : List Nat} (hI : Inv G N γ σ w) (hx : Ext γ w ⟨κ', γ.O⟩ w) (hs : Shut γ σ js κ') {v v' : V} {u : Value} (h : settle1 σ js v = some v') (hr : RepV γ w v u) (O : List (Nat × Nat)) : Rep1 ⟨κ', O⟩ w v' u := by
  unfold settle1 at h
  split at h
  · cases h
    obtain ⟨b, o, k, row, hu, h1, h2, h3, h4⟩ := repC_imm (repV_cell rfl hr)
    rw [hu]
    obtain ⟨k', hk', hle⟩ := hx.kap _ _ h1
    exact .cell (.imm row hk' (Nat.le_trans h2 hle) h3 (fun j hj => (h4 j hj).keep hx.kap hx.cell))
  · rename_i cs
    simp only [Option.map_eq_some_iff] at h
    obtain ⟨cs', hm, rfl⟩ := h
    obtain ⟨us, hu, hl, hj⟩ := repV_agg hr
    obtain ⟨l, g⟩ := mapM_get hm
    rw [hu]
    refine .agg (by omega) (fun j hj' => ?_)
    have hj2 : j < cs.length := by omega
    obtain ⟨y, hy, hf⟩ := g j _ (List.getElem?_eq_getElem hj2)
    rw [show cs'.getD j .und = y by rw [List.getD_eq_getElem?_getD, hy]; rfl]
    have := hj j hj2
    rw [show cs.getD j .und = cs[j] by rw [List.getD_eq_getElem?_getD, List.getElem?_eq_getElem hj2]; rfl] at this
    exact .row (settle_rep hI hx hs hf this)
  · have hc : v.cellB = true := by
      unfold settle at h
      split at h
      · rename_i hv; revert hv; cases v <;> simp [V.rowB, V.cellB]
      · split at h
        · rfl
        · cases h
    exact .cell (.row (settle_rep hI hx hs h (repV_cell hc hr)))
theorem settleV_rep {κ' : Kap} {js : List Nat} (hI : Inv G N γ σ w) (hx : Ext γ w ⟨κ', γ.O⟩ w) (hs : Shut γ σ js κ') {v v' : V} {u : Value} (h : settleV σ js v = some v') (hr : RepV γ w v u) (O : List (Nat × Nat)) : RepV ⟨κ', O⟩ w v' u := by
  unfold settleV at h
  split at h
  · rename_i vs
    simp only [Option.map_eq_some_iff] at h
    obtain ⟨vs', hm, rfl⟩ := h
    obtain ⟨us, hu, hl, hj⟩ := repV_tup hr
    obtain ⟨l, g⟩ := mapM_get hm
    rw [hu]
    refine .tup (by omega) (fun j hj' => ?_)
    have hj2 : j < vs.length := by omega
    obtain ⟨y, hy, hf⟩ := g j _ (List.getElem?_eq_getElem hj2)
    rw [show vs'.getD j .und = y by rw [List.getD_eq_getElem?_getD, hy]; rfl]
    have := hj j hj2
    rw [show vs.getD j .und = vs[j] by rw [List.getD_eq_getElem?_getD, List.getElem?_eq_getElem hj2]; rfl] at this
    exact settle1_rep hI hx hs hf (.one this) O
  · exact .one (settle1_rep hI hx hs h hr O)
theorem flatV_rep {v : V} {u : Value} (hf : v.flatV = true) (h : RepV γ w v u) (γ' : Gh) (w' : World) : RepV γ' w' v u := by
  cases h with
  | und => exact .und
  | skp => exact .skp
  | one h =>
    cases h with
    | cell h =>
      have : v.flatB = true := by
        have hc := (repC_none h).1
        revert hf hc
        cases v <;> simp [V.flatV, V.flatB, V.cellB]
      exact .one (.cell (flat_rep this h γ' w'))
    | @agg cs us h1 h2 =>
      have hf' : cs.all V.flatB = true := hf
      exact .one (.agg h1 (fun j hj => flat_rep (List.all_eq_true.1 hf' _ (by rw [List.getD_eq_getElem?_getD, List.getElem?_eq_getElem hj]; exact List.getElem_mem hj)) (h2 j hj) γ' w'))
  | @tup vs us h1 h2 =>
    have hf' : (vs.all fun v => v.cells.all V.flatB) = true := hf
    refine .tup h1 (fun j hj => ?_)
    have hfj := List.all_eq_true.1 hf' (vs.getD j .und) (by rw [List.getD_eq_getElem?_getD, List.getElem?_eq_getElem hj]; exact List.getElem_mem hj)
    have hr := h2 j hj
    generalize vs.getD j .und = x at hfj hr
    generalize us.getD j undef = y at hr ⊢
    cases hr with
    | cell h =>
      have : x.flatB = true := by
        have hc := (repC_none h).1
        revert hfj hc
        cases x <;> simp [V.cells, V.flatB, V.cellB]
      exact .cell (flat_rep this h γ' w')
    | @agg cs us h1 h2 =>
      have hf2 : cs.all V.flatB = true := hfj
      exact .agg h1 (fun j hj => flat_rep (List.all_eq_true.1 hf2 _ (by rw [List.getD_eq_getElem?_getD, List.getElem?_eq_getElem hj]; exact List.getElem_mem hj)) (h2 j hj) γ' w')

/-- a pure function sees no objects -/
theorem inv_pure {κ' : Kap} (h : Inv G N ⟨κ', γ.O⟩ σ w) : Inv G w.heap.size ⟨κ', []⟩ [] w where
  base := Nat.le_refl _
  len := rfl
  nd := List.nodup_nil
  low := fun i p h => by simp at h
  obj := fun i ob p h => by simp at h
  dom := h.dom
  glob := fun g r hg => by
    obtain ⟨b, o, k, row, hu, h1, h2, h3, h4⟩ := repC_imm (h.glob g r hg)
    rw [hu]
    exact .imm row h1 h2 h3 h4
  gsz := fun g r hg => ⟨by have := (h.gsz g r hg).1; have := h.base; omega, (h.gsz g r hg).2⟩
/-- what is left behind a call of a pure function -/
theorem after_call {args : List V} {v : V} {u : Value} {κ1 κ2 : Kap} {w1 : World} (hI : Inv G N γ σ w) (h1 : Inv G N ⟨κ1, γ.O⟩ (σ.freeze (jsOf σ args)) w) (hx : Ext γ w ⟨κ1, γ.O⟩ w) (hN : ∀ b, b < N → κ1 b = γ.κ b)
    (hb : Below w.heap.size w w1) (hk : ∀ b, b < w.heap.size → κ2 b = κ1 b) (hd : ∀ b k, κ2 b = some k → b < w1.heap.size) (hv : RepV ⟨κ2, []⟩ w1 v u) :
    ∃ γ1, Inv G N γ1 (after σ args v) w1 ∧ Ext γ w γ1 w1 ∧ RepV γ1 w1 v u ∧ (∀ b, b < N → γ1.κ b = γ.κ b) ∧ Below N w w1 := by
  unfold after
  split
  · rename_i hf
    obtain ⟨i1, i2⟩ := hI.more (w' := w1) (κ' := fun b => if b < w.heap.size then γ.κ b else κ2 b) (fun b hlt => hb.block b hlt) hb.size (fun b hlt => if_pos hlt) (fun b k hbk => by
      by_cases hlt : b < w.heap.size
      · have := hb.size; omega
      · rw [if_neg hlt] at hbk; exact hd b k hbk)
    exact ⟨_, i1, i2, flatV_rep hf hv _ _, fun b hlt => if_pos (Nat.lt_of_lt_of_le hlt hI.base), hb.mono hI.base⟩
  · obtain ⟨i1, i2⟩ := h1.more (w' := w1) (κ' := κ2) (fun b hlt => hb.block b hlt) hb.size hk hd
    exact ⟨_, i1, hx.trans i2, lowV hv, fun b hlt => (hk b (Nat.lt_of_lt_of_le hlt hI.base)).trans (hN b hlt), hb.mono hI.base⟩

/-- a function that is known by what it returns -/
def PrimOk (P : Program) (G : List (Nat × List V)) (f : Nat) (s : List V → Option V) : Prop :=
  (∃ fn c, P.funcs[f]? = some fn ∧ fn.body = some c ∧ fn.name ≠ "runtime.NumGoroutine") ∧
  ∀ (κ : Kap) (w : World) (vs : List V) (us : List Value) (v : V), (∀ g r, (g, r) ∈ G → RepC ⟨κ, []⟩ w (.imm r 0) (.pointer (some ⟨g, 0, none⟩))) → (∀ g r, (g, r) ∈ G → sizeOf? w g = some r.length) → (∀ b k, κ b = some k → b < w.heap.size) → vs.length = us.length →
    (∀ j, j < vs.length → Rep1 ⟨κ, []⟩ w (vs.getD j .und) (us.getD j undef)) → s vs = some v →
    Calls P f us.toArray w fun e w' => ∃ u κ', e = .returned u ∧ RepV ⟨κ', []⟩ w' v u ∧ Below w.heap.size w w' ∧ (∀ b, b < w.heap.size → κ' b = κ b) ∧ ∀ b k, κ' b = some k → b < w'.heap.size

/-- a threaded function that is known by what it does -/
def ThrOk (P : Program) (G : List (Nat × List V)) (f : Nat) (s : List V → St → Option (V × St)) : Prop :=
  (∃ fn c, P.funcs[f]? = some fn ∧ fn.body = some c ∧ fn.name ≠ "runtime.NumGoroutine") ∧
  ∀ (args : List V) (σ : St) (v : V) (σ' : St), s args σ = some (v, σ') → ∀ (us : List Value) (w : World) (γ : Gh) (N : Nat), args.length = us.length → (∀ j, j < args.length → RepV γ w (args.getD j .und) (us.getD j undef)) → Inv G N γ σ w →
      Calls P f us.toArray w fun e w' => ∃ u γ', e = .returned u ∧ RepV γ' w' v u ∧ Inv G N γ' σ' w' ∧ Ext γ w γ' w' ∧ Below N w w' ∧ ∀ b, b < N → γ'.κ b = γ.κ b

/-! objects under new numbers -/
theorem refsL_mem : ∀ {cs : List V} {j i : Nat}, j < cs.length → i ∈ (cs.getD j .und).refs → i ∈ refsL cs
  | [], _, _, h, _ => by simp at h
  | c :: cs, 0, i, _, h => by simp only [refsL, List.mem_append]; exact .inl (by simpa using h)
  | c :: cs, j + 1, i, hj, h => by simp only [refsL, List.mem_append]; exact .inr (refsL_mem (j := j) (by simpa using hj) (by simpa using h))
theorem renL_len (ρ : Nat → Nat) : ∀ cs : List V, (renL ρ cs).length = cs.length
  | [] => rfl
  | c :: cs => by simp [renL, renL_len ρ cs]
theorem renL_get (ρ : Nat → Nat) : ∀ {cs : List V} {j : Nat}, j < cs.length → (renL ρ cs).getD j .und = (cs.getD j .und).ren ρ
  | [], _, h => by simp at h
  | c :: cs, 0, _ => by simp [renL]
  | c :: cs, j + 1, h => by simpa [renL] using renL_get ρ (cs := cs) (j := j) (by simpa using h)
theorem RepC.renum {O : List (Nat × Nat)} {ρ : Nat → Nat} {v : V} {u : Value} (h : RepC γ w v u) : (∀ i ∈ v.refs, ∀ p, γ.O[i]? = some p → O[ρ i]? = some p) → RepC ⟨γ.κ, O⟩ w (v.ren ρ) u := by
  induction h with
  | row h =>
    intro _
    cases h with
    | bool => exact .row .bool
    | int => exact .row .int
    | str h => exact .row (.str h)
    | nili => exact .row .nili
    | ifc => exact .row .ifc
    | nils => exact .row .nils
    | lst row h1 h2 h3 h4 h5 h6 h7 => exact .row (.lst row h1 h2 h3 h4 h5 h6 h7)
  | imm row h1 h2 h3 h4 => exact fun _ => .imm row h1 h2 h3 h4
  | ptr h1 h2 h3 => exact fun hr => .ptr (hr _ (by simp [V.refs]) _ h1) h2 h3
  | sl h1 h2 h3 h4 h5 h6 => exact fun hr => .sl (hr _ (by simp [V.refs]) _ h1) h2 h3 h4 h5 h6
  | nilp => exact fun _ => .nilp
  | nilf => exact fun _ => .nilf
  | ifc => exact fun _ => .ifc
  | fn h1 h2 _ _ ih1 ih2 =>
    intro hr
    refine .fn (by rw [renL_len]; exact h1) (by rw [renL_len]; exact h2) (fun j hj => ?_) (fun j hj => ?_)
    · rw [renL_len] at hj
      rw [renL_get ρ hj]
      exact ih1 j hj (fun i hi => hr i (by simp only [V.refs, List.mem_append]; exact .inl (refsL_mem hj hi)))
    · rw [renL_len] at hj
      rw [renL_get ρ hj]
      exact ih2 j hj (fun i hi => hr i (by simp only [V.refs, List.mem_append]; exact .inr (refsL_mem hj hi)))
  | mp h1 h2 h3 => exact fun hr => .mp (hr _ (by simp [V.refs]) _ h1) h2 h3
theorem Rep1.renum {O : List (Nat × Nat)} {ρ : Nat → Nat} {v : V} {u : Value} (h : Rep1 γ w v u) (hr : ∀ i ∈ v.refs, ∀ p, γ.O[i]? = some p → O[ρ i]? = some p) : Rep1 ⟨γ.κ, O⟩ w (v.ren ρ) u := by
  cases h with
  | cell h => exact .cell (h.renum hr)
  | agg h1 h2 =>
    refine .agg (by rw [renL_len]; exact h1) (fun j hj => ?_)
    rw [renL_len] at hj
    rw [renL_get ρ hj]
    exact (h2 j hj).renum (fun i hi => hr i (by simp only [V.refs]; exact refsL_mem hj hi))
theorem RepV.renum {O : List (Nat × Nat)} {ρ : Nat → Nat} {v : V} {u : Value} (h : RepV γ w v u) (hr : ∀ i ∈ v.refs, ∀ p, γ.O[i]? = some p → O[ρ i]? = some p) : RepV ⟨γ.κ, O⟩ w (v.ren ρ) u := by
  cases h with
  | und => exact .und
  | skp => exact .skp
  | one h => exact .one (h.renum hr)
  | tup h1 h2 =>
    refine .tup (by rw [renL_len]; exact h1) (fun j hj => ?_)
    rw [renL_len] at hj
    rw [renL_get ρ hj]
    exact (h2 j hj).renum (fun i hi => hr i (by simp only [V.refs]; exact refsL_mem hj hi))
theorem ObOk.renum {O : List (Nat × Nat)} {ρ : Nat → Nat} {ob : Ob} {p : Nat × Nat} (h : ObOk γ w ob p) (hr : ∀ i ∈ ob.refs, ∀ q, γ.O[i]? = some q → O[ρ i]? = some q) : ObOk ⟨γ.κ, O⟩ w (ob.ren ρ) p := by
  cases ob with
  | row cs e g z =>
    obtain ⟨h1, h2, h3, us, lo, hi, h4, h5, h6, h7⟩ := h
    refine ⟨h1, h2, by rw [renL_len]; exact h3, us, lo, hi, h4, h5, by rw [renL_len]; exact h6, fun j hj => ?_⟩
    rw [renL_len] at hj
    rw [renL_get ρ hj]
    exact (h7 j hj).renum (fun i hi => hr i (by simp only [Ob.refs]; exact refsL_mem hj hi))
  | map kvs =>
    obtain ⟨h1, h2, es, h3, h4, h5⟩ := h
    refine ⟨h1, h2, es, by simpa using h3, by simpa using h4, fun i k v hi => ?_⟩
    simp only [List.getElem?_map, Option.map_eq_some_iff] at hi
    obtain ⟨⟨k', v'⟩, hi, he⟩ := hi
    simp only [Prod.mk.injEq] at he
    obtain ⟨rfl, rfl⟩ := he
    obtain ⟨en, a1, a2, a3, a4, a5, a6⟩ := h5 i k' v' hi
    have hfv : (v'.ren ρ).flatB = true := by revert a5; cases v' <;> simp [V.flatB, V.ren]
    exact ⟨en, a1, a2, a3, a4, hfv, a6.renum (fun i' hi' => hr i' (by
      simp only [Ob.refs]
      have hlt := (List.getElem?_eq_some_iff.1 hi).1
      exact refsL_mem (j := i) (by simpa using hlt) (by simpa [List.getD_eq_getElem?_getD, hi] using hi')))⟩
  | dead => exact h
mutual
theorem ren_id : ∀ v : V, v.ren (fun i => i) = v
  | .und | .skp | .bool _ | .int _ _ | .str _ | .nili | .ifc | .nils | .nilp | .nilf | .lst _ _ | .imm _ _ | .ptr _ _ _ | .sl _ _ _ _ _ _ | .mp _ => by simp [V.ren]
  | .fn f a c => by simp [V.ren, renL_id a, renL_id c]
  | .agg cs => by simp [V.ren, renL_id cs]
  | .tup vs => by simp [V.ren, renL_id vs]
theorem renL_id : ∀ cs : List V, renL (fun i => i) cs = cs
  | [] => rfl
  | c :: cs => by simp [renL, ren_id c, renL_id cs]
end
theorem ob_ren_id (ob : Ob) : ob.ren (fun i => i) = ob := by
  cases ob with
  | row cs e g z => simp [Ob.ren, renL_id]
  | map kvs => simp [Ob.ren, ren_id]
  | dead => rfl
/-- what a value names is there -/
theorem refsL_ex : ∀ {cs : List V} {i : Nat}, i ∈ refsL cs → ∃ j, j < cs.length ∧ i ∈ (cs.getD j .und).refs
  | [], _, h => by simp [refsL] at h
  | c :: cs, i, h => by
    simp only [refsL, List.mem_append] at h
    rcases h with h | h
    · exact ⟨0, by simp, by simpa using h⟩
    · obtain ⟨j, h1, h2⟩ := refsL_ex h
      exact ⟨j + 1, by simpa using h1, by simpa using h2⟩
theorem RepC.refs_lt {v : V} {u : Value} (h : RepC γ w v u) : ∀ i ∈ v.refs, i < γ.O.length := by
  induction h with
  | row h => intro i hi; cases h <;> simp [V.refs] at hi
  | imm => intro i hi; simp [V.refs] at hi
  | ptr h1 => intro i hi; simp [V.refs] at hi; subst hi; exact (List.getElem?_eq_some_iff.1 h1).1
  | sl h1 => intro i hi; simp [V.refs] at hi; subst hi; exact (List.getElem?_eq_some_iff.1 h1).1
  | nilp => intro i hi; simp [V.refs] at hi
  | nilf => intro i hi; simp [V.refs] at hi
  | ifc => intro i hi; simp [V.refs] at hi
  | fn h1 h2 _ _ ih1 ih2 =>
    intro i hi
    simp only [V.refs, List.mem_append] at hi
    rcases hi with hi | hi
    · obtain ⟨j, g1, g2⟩ := refsL_ex hi
      exact ih1 j g1 i g2
    · obtain ⟨j, g1, g2⟩ := refsL_ex hi
      exact ih2 j g1 i g2
  | mp h1 => intro i hi; simp [V.refs] at hi; subst hi; exact (List.getElem?_eq_some_iff.1 h1).1
theorem ObOk.refs_lt {ob : Ob} {p : Nat × Nat} (h : ObOk γ w ob p) : ∀ i ∈ ob.refs, i < γ.O.length := by
  intro i hi
  cases ob with
  | row cs e g z =>
    obtain ⟨_, _, _, us, lo, hi', _, _, _, h7⟩ := h
    obtain ⟨j, g1, g2⟩ := refsL_ex (show i ∈ refsL cs from hi)
    exact (h7 j g1).refs_lt i g2
  | map kvs =>
    obtain ⟨_, _, es, _, _, h5⟩ := h
    obtain ⟨j, g1, g2⟩ := refsL_ex (show i ∈ refsL (kvs.map (·.2)) from hi)
    have hj : j < kvs.length := by simpa using g1
    obtain ⟨en, _, _, _, _, _, a6⟩ := h5 j (kvs[j]).1 (kvs[j]).2 (List.getElem?_eq_getElem hj)
    exact a6.refs_lt i (by simpa [List.getD_eq_getElem?_getD, hj] using g2)
  | dead => simp [Ob.refs] at hi

/-- THE OBJECTS js OF THOSE BEHIND THE FIRST n ARE KEPT, the others dropped -/
theorem Inv.leave {γ' : Gh} {σ' : St} {w' : World} {n : Nat} {js : List Nat} {ρ : Nat → Nat} (hI : Inv G N γ' σ' w') (hn : n ≤ σ'.length) (hjs : ∀ i ∈ js, n ≤ i ∧ i < σ'.length) (hnd : js.Nodup)
    (hρ : ∀ i, i < n → ρ i = i) (hρ2 : ∀ k (hk : k < js.length), ρ js[k] = n + k)
    (hob : ∀ (i : Nat) (ob : Ob), (i < n ∨ i ∈ js) → σ'[i]? = some ob → ∀ j ∈ ob.refs, j < n ∨ j ∈ js) :
    Inv G N ⟨γ'.κ, γ'.O.take n ++ js.filterMap (γ'.O[·]?)⟩ ((σ'.take n ++ js.filterMap (σ'[·]?)).map (Ob.ren ρ)) w' ∧ ∀ i, (i < n ∨ i ∈ js) → ∀ p, γ'.O[i]? = some p → (γ'.O.take n ++ js.filterMap (γ'.O[·]?))[ρ i]? = some p := by
  have hlen := hI.len
  -- the kept ones, one by one
  have pick : ∀ {α : Type} (l : List α), l.length = σ'.length → (js.filterMap (l[·]?)).length = js.length ∧ ∀ k (hk : k < js.length), (js.filterMap (l[·]?))[k]? = l[js[k]]? := fun {α} l hl => by
    have : js.filterMap (l[·]?) = js.pmap (fun i hi => l[i]'(by rw [hl]; exact hi)) (fun i hi => (hjs i hi).2) := by
      clear hnd hρ2 hob
      induction js with
      | nil => rfl
      | cons a js ih =>
        have ha : a < l.length := by rw [hl]; exact (hjs a (by simp)).2
        rw [List.filterMap_cons, List.getElem?_eq_getElem ha]
        simp only [List.pmap_cons]
        rw [ih (fun i hi => hjs i (List.mem_cons_of_mem _ hi))]
    rw [this]
    refine ⟨by simp, fun k hk => ?_⟩
    have hk2 : js[k] < l.length := by rw [hl]; exact (hjs _ (List.getElem_mem hk)).2
    rw [List.getElem?_eq_getElem (by simpa using hk), List.getElem_pmap, List.getElem?_eq_getElem hk2]
  obtain ⟨po1, po2⟩ := pick γ'.O hlen
  obtain ⟨ps1, ps2⟩ := pick σ' rfl
  have htake : (γ'.O.take n).length = n := by simp; omega
  have htake2 : (σ'.take n).length = n := by simp; omega
  have hmap : ∀ i, (i < n ∨ i ∈ js) → ∀ p, γ'.O[i]? = some p → (γ'.O.take n ++ js.filterMap (γ'.O[·]?))[ρ i]? = some p := by
    intro i hi p hp
    by_cases hin : i < n
    · rw [hρ i hin, List.getElem?_append_left (by omega), List.getElem?_take, if_pos hin]
      exact hp
    · rcases hi with h | h
      · exact absurd h hin
      · obtain ⟨k, hk, rfl⟩ := List.getElem_of_mem h
        rw [hρ2 k hk, List.getElem?_append_right (by omega), htake, show n + k - n = k by omega, po2 k hk]
        exact hp
  -- an index of the new state stands for one of the old
  have back : ∀ q, q < n + js.length → ∃ i, (i < n ∨ i ∈ js) ∧ ρ i = q ∧ (γ'.O.take n ++ js.filterMap (γ'.O[·]?))[q]? = γ'.O[i]? ∧ (σ'.take n ++ js.filterMap (σ'[·]?))[q]? = σ'[i]? := by
    intro q hq
    by_cases hqn : q < n
    · refine ⟨q, .inl hqn, hρ q hqn, ?_, ?_⟩
      · rw [List.getElem?_append_left (by omega), List.getElem?_take, if_pos hqn]
      · rw [List.getElem?_append_left (by omega), List.getElem?_take, if_pos hqn]
    · have hk : q - n < js.length := by omega
      refine ⟨js[q - n], .inr (List.getElem_mem hk), by rw [hρ2 _ hk]; omega, ?_, ?_⟩
      · rw [List.getElem?_append_right (by omega), htake, po2 _ hk]
      · rw [List.getElem?_append_right (by omega), htake2, ps2 _ hk]
  have hOl : (γ'.O.take n ++ js.filterMap (γ'.O[·]?)).length = n + js.length := by rw [List.length_append, htake, po1]
  have hSl : (σ'.take n ++ js.filterMap (σ'[·]?)).length = n + js.length := by rw [List.length_append, htake2, ps1]
  refine ⟨⟨hI.base, by rw [List.length_map, hOl, hSl], ?_, fun q p hp => ?_, fun q ob p h1 h2 => ?_, hI.dom, fun g r hg => ?_, hI.gsz⟩, hmap⟩
  · refine List.pairwise_iff_getElem.2 fun q1 q2 h1 h2 h12 => ?_
    simp only [List.length_map, hOl] at h1 h2
    obtain ⟨i1, c1, e1, o1, _⟩ := back q1 h1
    obtain ⟨i2, c2, e2, o2, _⟩ := back q2 h2
    have hne : i1 ≠ i2 := fun e => by subst e; omega
    rw [List.getElem_map, List.getElem_map]
    have hq1 : q1 < (γ'.O.take n ++ js.filterMap (γ'.O[·]?)).length := by omega
    have hq2 : q2 < (γ'.O.take n ++ js.filterMap (γ'.O[·]?)).length := by omega
    rw [List.getElem?_eq_getElem hq1] at o1
    rw [List.getElem?_eq_getElem hq2] at o2
    exact hI.ne o1.symm o2.symm hne
  · have hq : q < n + js.length := by have := (List.getElem?_eq_some_iff.1 hp).1; rw [← hOl]; exact this
    obtain ⟨i, c1, e1, o1, _⟩ := back q hq
    have hp' : (γ'.O.take n ++ js.filterMap (γ'.O[·]?))[q]? = some p := hp
    rw [o1] at hp'
    exact hI.low i p hp'
  · have hq : q < n + js.length := by have := (List.getElem?_eq_some_iff.1 h2).1; rw [← hOl]; exact this
    obtain ⟨i, c1, e1, o1, o2⟩ := back q hq
    have h2' : (γ'.O.take n ++ js.filterMap (γ'.O[·]?))[q]? = some p := h2
    rw [o1] at h2'
    simp only [List.getElem?_map, Option.map_eq_some_iff] at h1
    obtain ⟨ob0, h1, rfl⟩ := h1
    rw [o2] at h1
    exact (hI.obj i ob0 p h1 h2').renum (fun j hj r hr => hmap j (hob i ob0 c1 h1 j hj) r hr)
  · obtain ⟨b, o, k, row, hu, h1, h2, h3, h4⟩ := repC_imm (hI.glob g r hg)
    rw [hu]
    exact .imm row h1 h2 h3 h4
end Go.Proofs.YticpkkjnajmpoaaGreatDoor.KM
