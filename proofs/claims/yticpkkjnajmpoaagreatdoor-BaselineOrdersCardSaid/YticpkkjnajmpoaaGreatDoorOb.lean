/- Regions that draw their order, in general: the theorem. -/
import Derived.Test.YticpkkjnajmpoaaGreatDoorOa
set_option linter.all false
namespace Go.Proofs.YticpkkjnajmpoaaGreatDoor.KM
open Go
variable {T : Nat → Option AF} {pr : Nat → Option (List V → Option V)}
section
variable {deps : List (List Nat)} {ops : List AI} {e e1 : Env} {σ σ1 : St} {env : Nat → Env} {st : Nat → St} {val : Nat → V} {ro : Nat → Option (St → Prop)}
structure StaP (deps : List (List Nat)) (ops : List AI) : Prop where
  len : deps.length = ops.length
  dep : ∀ j, j < ops.length → ∀ d ∈ deps.getD j [], d < j
  pair : ∀ i j x y, i < j → ops[i]? = some x → ops[j]? = some y → befB deps ops.length j i = true ∨ pairP x y = true
theorem staP_of (h : statP deps ops = true) : StaP deps ops := by
  unfold statP at h
  simp only [Bool.and_eq_true, beq_iff_eq, List.all_eq_true, List.mem_range, decide_eq_true_eq, Bool.or_eq_true] at h
  refine ⟨h.1, fun j hj d hd => (h.2 j hj).1 d hd, fun i j x y hij hx hy => ?_⟩
  have hj : j < ops.length := (List.getElem?_eq_some_iff.1 hy).1
  rcases (h.2 j hj).2 i hij with h' | h'
  · exact .inl h'
  · rw [hx, hy] at h'
    exact .inr h'
theorem bef_lt {deps : List (List Nat)} {N : Nat} (hdep : ∀ j, j < N → ∀ d ∈ deps.getD j [], d < j) : ∀ f j c, j < N → befB deps f j c = true → c < j := by
  intro f
  induction f with
  | zero => intro j c _ h; simp [befB] at h
  | succ f ih =>
    intro j c hj h
    simp only [befB, List.any_eq_true, Bool.or_eq_true, beq_iff_eq] at h
    obtain ⟨d, hd, h⟩ := h
    have hdj := hdep j hj d hd
    rcases h with rfl | h
    · exact hdj
    · have := ih d c (by omega) h
      omega
theorem text_env2 (q : Sr T pr deps ops.length 0 ops e σ [] [] e1 σ1 env st val ro) : ∀ i, i ≤ ops.length → EnvOK ops val e (fun j => j < i) (env i)
  | 0, _ => fun t => .inr ⟨fun j hj => by omega, by rw [q.e0]⟩
  | i + 1, hi => by
    have ih := text_env2 q i (by omega)
    obtain ⟨x, hx⟩ : ∃ x, ops[i]? = some x := ⟨ops[i], List.getElem?_eq_getElem (by omega)⟩
    have hs := (q.stp i x hx).1
    simp only [Nat.zero_add] at hs
    rw [hs]
    exact (ih.put hx (fun j t hj _ _ => hj)).iff (fun j => by omega)
def efAt (ops : List AI) (ro : Nat → Option (St → Prop)) (j : Nat) : Prop := j < ops.length ∧ ro j = none
theorem st_flat2 (q : Sr T pr deps ops.length 0 ops e σ [] [] e1 σ1 env st val ro) {α : Sort _} (f : St → α) : ∀ (d a : Nat), a + d ≤ ops.length → (∀ k, a ≤ k → k < a + d → efAt ops ro k → f (st (k + 1)) = f (st k)) → f (st (a + d)) = f (st a)
  | 0, a, _, _ => rfl
  | d + 1, a, hle, h => by
    have ih := st_flat2 q f d a (by omega) (fun k h1 h2 => h k h1 (by omega))
    rw [← ih]
    obtain ⟨x, hx⟩ : ∃ x, ops[a + d]? = some x := ⟨ops[a + d], List.getElem?_eq_getElem (by omega)⟩
    cases hc : ro (a + d) with
    | none => exact h (a + d) (by omega) (by omega) ⟨by omega, hc⟩
    | some R =>
      have := (q.stp (a + d) x hx).2
      simp only [Nat.zero_add, hc, KindOk] at this
      rw [show a + (d + 1) = a + d + 1 from rfl, this.1]
def StP (ops : List AI) (ro : Nat → Option (St → Prop)) (st : Nat → St) (acc : List Nat) (S' : St) : Prop :=
  ∃ m, m ≤ ops.length ∧ S' = st m ∧ ∀ j, efAt ops ro j → (j < m ↔ j ∈ acc)

theorem run_any2 (hst : StaP deps ops) (q : Sr T pr deps ops.length 0 ops e σ [] [] e1 σ1 env st val ro) : ∀ (fuel t : Nat) (acc : List Nat) (E : Env) (S' : St), acc.length + fuel = ops.length → acc.Nodup → (∀ i ∈ acc, i < ops.length) → DC deps acc →
    EnvOK ops val e (· ∈ acc) E → StP ops ro st acc S' → ∃ E', Ev T pr (.ops (pickAI ops (linRem deps fuel t acc)) E S' E' σ1) ∧ ∀ m, E'.get m = e1.get m
  | 0, t, acc, E, S', hl, hn, hlt, hdc, hE, ⟨m, hm, hS, heff⟩ => by
    have hall : ∀ j, j < ops.length → j ∈ acc := fun j hj => covers hn hlt (by omega) hj
    refine ⟨E, ?_, fun k => ?_⟩
    · have hs1 : S' = σ1 := by
        rw [hS, ← q.s1, Nat.zero_add]
        obtain ⟨d, hd⟩ : ∃ d, m + d = ops.length := ⟨ops.length - m, by omega⟩
        rw [← hd]
        refine (st_flat2 q id d m (by omega) (fun k h1 h2 he => ?_)).symm
        have := (heff k he).2 (hall k (by omega))
        omega
      rw [hs1]
      exact .opsNil
    · have ht := text_env2 q ops.length (Nat.le_refl _)
      have he1 := q.e1
      rw [Nat.zero_add] at he1
      rw [← he1]
      exact hE.same ht (fun j hj => ⟨fun h => hlt j h, fun h => hall j h⟩)
  | fuel + 1, t, acc, E, S', hl, hn, hlt, hdc, hE, ⟨m, hm, hS, heff⟩ => by
    -- somebody may come next
    have hsome : ∃ j, j < ops.length ∧ j ∉ acc ∧ ∀ d ∈ deps.getD j [], d ∈ acc := by
      have hex : ∃ j, j < ops.length ∧ j ∉ acc := by
        rcases Classical.em (∃ j, j < ops.length ∧ j ∉ acc) with h | h
        · exact h
        · exfalso
          have hsub : ∀ j, j < ops.length → j ∈ acc := fun j hj => Classical.byContradiction fun hc => h ⟨j, hj, hc⟩
          have h1 := len_of_all ops.length acc hsub
          omega
      have : ∀ k, ∀ j, j ≤ k → j < ops.length → j ∉ acc → ∃ j, j < ops.length ∧ j ∉ acc ∧ ∀ d ∈ deps.getD j [], d ∈ acc := by
        intro k
        induction k with
        | zero =>
          intro j hj h1 h2
          obtain rfl : j = 0 := by omega
          exact ⟨0, h1, h2, fun d hd => absurd (hst.dep 0 h1 d hd) (by omega)⟩
        | succ k ih =>
          intro j hj h1 h2
          by_cases hall : ∀ d ∈ deps.getD j [], d ∈ acc
          · exact ⟨j, h1, h2, hall⟩
          · obtain ⟨d, hd, hda⟩ : ∃ d, d ∈ deps.getD j [] ∧ d ∉ acc := Classical.byContradiction fun hc => hall fun d hd => Classical.byContradiction fun hda => hc ⟨d, hd, hda⟩
            have := hst.dep j h1 d hd
            exact ih d (by omega) (by omega) hda
      obtain ⟨j, h1, h2⟩ := hex
      exact this j j (Nat.le_refl _) h1 h2
    unfold linRem
    generalize hrs : (List.range deps.length).filter (readyB deps acc) = rs
    have hpos : 0 < rs.length := by
      obtain ⟨j, h1, h2, h3⟩ := hsome
      have : j ∈ rs := by
        rw [← hrs, List.mem_filter]
        refine ⟨by rw [List.mem_range, hst.len]; exact h1, ?_⟩
        simp only [readyB, Bool.and_eq_true, Bool.not_eq_true', List.all_eq_true]
        refine ⟨?_, fun d hd => List.elem_iff.2 (h3 d hd)⟩
        cases hel : acc.elem j with
        | false => rfl
        | true => exact absurd (List.elem_iff.1 hel) h2
      exact List.length_pos_of_mem this
    have hget : rs[t % rs.length]? = some (rs[t % rs.length]'(Nat.mod_lt _ hpos)) := List.getElem?_eq_getElem _
    generalize rs[t % rs.length]'(Nat.mod_lt _ hpos) = i at hget
    rw [hget]
    have hin : i ∈ rs := List.mem_of_getElem? hget
    rw [← hrs, List.mem_filter] at hin
    obtain ⟨hir, hready⟩ := hin
    have hi : i < ops.length := by rw [List.mem_range, hst.len] at hir; exact hir
    simp only [readyB, Bool.and_eq_true, Bool.not_eq_true', List.all_eq_true] at hready
    have hia : i ∉ acc := fun h => by rw [List.elem_iff.2 h] at hready; cases hready.1
    have hdeps : ∀ d ∈ deps.getD i [], d ∈ acc := fun d hd => List.elem_iff.1 (hready.2 d hd)
    obtain ⟨x, hx⟩ : ∃ x, ops[i]? = some x := ⟨ops[i], List.getElem?_eq_getElem hi⟩
    -- pairs
    have hup : ∀ j y, i < j → ops[j]? = some y → j ∈ acc → pairP x y = true := fun j y hij hy hj => by
      rcases hst.pair i j x y hij hx hy with h | h
      · exact absurd (bef_mem hdc _ j i h hj) hia
      · exact h
    have hdn : ∀ j y, j < i → ops[j]? = some y → j ∉ acc → pairP y x = true := fun j y hij hy hj => by
      rcases hst.pair j i y x hij hy hx with h | h
      · exact absurd (bef_ready hdc hdeps h) hj
      · exact h
    have dst_some : ∀ {j t : Nat}, dstAt ops j = some t → ∃ y, ops[j]? = some y ∧ y.dst = some t := fun {j t} h => by
      unfold dstAt at h
      cases hy : ops[j]? with
      | none => rw [hy] at h; simp at h
      | some y => rw [hy] at h; exact ⟨y, rfl, by simpa using h⟩
    have hagree : Agree (env i) E x.rd := fun t ht => by
      refine (text_env2 q i (by omega)).same hE (fun j hj => ?_)
      obtain ⟨y, hy, hyd⟩ := dst_some hj
      constructor
      · intro hlt'
        rcases Classical.em (j ∈ acc) with h | h
        · exact h
        · have := hdn j y hlt' hy h
          simp only [pairP, hyd, Bool.and_eq_true, Bool.not_eq_true'] at this
          have h1 := this.1.1
          rw [List.elem_iff.2 ht] at h1
          cases h1
      · intro hja
        rcases Nat.lt_trichotomy j i with h | h | h
        · exact h
        · subst h; exact absurd hja hia
        · have := hup j y h hy hja
          simp only [pairP, hyd, Bool.and_eq_true, Bool.not_eq_true'] at this
          have h1 := this.2
          rw [List.elem_iff.2 ht] at h1
          cases h1
    obtain ⟨henv, hkind⟩ := q.stp i x hx
    simp only [Nat.zero_add] at henv hkind
    have hE' : EnvOK ops val e (· ∈ i :: acc) (E.putO x.dst (val i)) := (hE.put hx (fun j t hj hxd hjd => by
      obtain ⟨y, hy, hyd⟩ := dst_some hjd
      rcases Nat.lt_trichotomy j i with h | h | h
      · exact h
      · subst h; exact absurd hj hia
      · have := hup j y h hy hj
        simp only [pairP, hxd, hyd, Bool.and_eq_true, Bool.not_eq_true'] at this
        have h1 := this.1.2
        simp at h1)).iff (fun j => by simp [List.mem_cons])
    have hdc' : DC deps (i :: acc) := fun j hj d hd => by
      rcases List.mem_cons.1 hj with rfl | hj
      · exact List.mem_cons_of_mem _ (hdeps d hd)
      · exact List.mem_cons_of_mem _ (hdc j hj d hd)
    have next : ∀ S2, StP ops ro st (i :: acc) S2 → Sg T pr x E S' (val i) S2 → ∃ E', Ev T pr (.ops (pickAI ops (i :: linRem deps fuel (t / rs.length) (i :: acc))) E S' E' σ1) ∧ ∀ m, E'.get m = e1.get m := fun S2 hS2 hs2 => by
      obtain ⟨E', h1, h2⟩ := run_any2 hst q fuel (t / rs.length) (i :: acc) _ S2 (by simp; omega) (List.nodup_cons.2 ⟨hia, hn⟩) (fun j hj => by
        rcases List.mem_cons.1 hj with rfl | hj
        · exact hi
        · exact hlt j hj) hdc' hE' hS2
      refine ⟨E', ?_, h2⟩
      have : pickAI ops (i :: linRem deps fuel (t / rs.length) (i :: acc)) = x :: pickAI ops (linRem deps fuel (t / rs.length) (i :: acc)) := by
        unfold pickAI
        rw [List.filterMap_cons, hx]
      rw [this]
      exact hs2.ev h1
    have hb := bef_lt hst.dep
    cases hro : ro i with
    | none =>
      rw [hro] at hkind
      have hkind : Sg T pr x (env i) (st i) (val i) (st (i + 1)) := hkind
      have hflat : ∀ k, efAt ops ro k → (k ∈ acc ↔ k < i) := fun k ⟨hkl, hk0⟩ => by
        constructor
        · intro hk
          rcases Nat.lt_trichotomy k i with h | h | h
          · exact h
          · subst h; exact absurd hk hia
          · have := q.d0 i k h hkl (by simpa using hro) (by simpa using hk0)
            simp only [Nat.zero_add] at this
            exact absurd (bef_mem hdc _ k i this hk) hia
        · intro hk
          have := q.d0 k i hk hi (by simpa using hk0) (by simpa using hro)
          simp only [Nat.zero_add] at this
          exact bef_ready hdc hdeps this
      have hSi : S' = st i := by
        rw [hS]
        rcases Nat.le_total m i with hmi | hmi
        · obtain ⟨d, rfl⟩ := Nat.exists_eq_add_of_le hmi
          exact (st_flat2 q id d m (by omega) (fun k a1 a2 he => by
            have := (heff k he).2 ((hflat k he).2 a2)
            omega)).symm
        · obtain ⟨d, rfl⟩ := Nat.exists_eq_add_of_le hmi
          exact st_flat2 q id d i (by omega) (fun k a1 a2 he => by
            have := (hflat k he).1 ((heff k he).1 a2)
            omega)
      rw [hSi] at next ⊢
      refine next (st (i + 1)) ⟨i + 1, by omega, rfl, fun k he => ?_⟩ (hkind.move hagree)
      rw [List.mem_cons, hflat k he]
      omega
    | some R =>
      rw [hro] at hkind
      obtain ⟨hk1, hk2, hk3⟩ : st (i + 1) = st i ∧ R (st i) ∧ ∀ s', R s' → Sg T pr x (env i) s' (val i) s' := hkind
      have hS2 : StP ops ro st (i :: acc) S' := ⟨m, hm, hS, fun k he => by
        rw [heff k he, List.mem_cons]
        constructor
        · exact .inr
        · rintro (rfl | h)
          · rw [he.2] at hro; cases hro
          · exact h⟩
      refine next S' hS2 ((hk3 S' ?_).move hagree)
      have hone : ∀ k, efAt ops ro k → (k ∈ acc ∧ i < k ∨ k ∉ acc ∧ k < i) → R (st (k + 1)) = R (st k) := fun k ⟨hkl, hk0⟩ hk => by
        have hd := q.d1 i k R hi hkl (by simpa using hro) (by simpa using hk0)
        simp only [Nat.zero_add] at hd
        rcases hd with h | h | h
        · have hka := bef_ready hdc hdeps h
          rcases hk with ⟨_, hlt'⟩ | ⟨hk, _⟩
          · have := hb _ i k hi h
            omega
          · exact absurd hka hk
        · rcases hk with ⟨hk, _⟩ | ⟨hk, hlt'⟩
          · exact absurd (bef_mem hdc _ k i h hk) hia
          · have := hb _ k i (by omega) h
            omega
        · exact propext h
      rw [hS]
      rcases Nat.le_total m i with hmi | hmi
      · obtain ⟨d, rfl⟩ := Nat.exists_eq_add_of_le hmi
        have := st_flat2 q R d m (by omega) (fun k a1 a2 he => hone k he (.inr ⟨fun hka => by
          have := (heff k he).2 hka
          omega, a2⟩))
        rw [← this]
        exact hk2
      · obtain ⟨d, rfl⟩ := Nat.exists_eq_add_of_le hmi
        have := st_flat2 q R d i (by omega) (fun k a1 a2 he => by
          have hka := (heff k he).1 a2
          rcases Nat.eq_or_lt_of_le a1 with rfl | h
          · exact absurd hka hia
          · exact hone k he (.inl ⟨hka, h⟩))
        rw [this]
        exact hk2

/-- ONE WALK IN THE ORDER OF THE TEXT SERVES A REGION THAT DRAWS ITS ORDER -/
theorem draw2_ok (hst : statP deps ops = true) (h : TG T pr deps ops.length 0 ops e σ [] [] e1 σ1) : ∃ E2 : Nat → Env, (∀ t, Ev T pr (.ops (pickAI ops (lin deps t)) e σ (E2 t) σ1)) ∧ ∀ t n, (E2 t).get n = e1.get n := by
  obtain ⟨env, st, val, ro, q⟩ := h.sr
  have S := staP_of hst
  have key : ∀ t, ∃ E', Ev T pr (.ops (pickAI ops (lin deps t)) e σ E' σ1) ∧ ∀ m, E'.get m = e1.get m := fun t => by
    have := run_any2 S q deps.length t [] e σ (by simp [S.len]) List.nodup_nil (fun i hi => by cases hi) (fun j hj => by cases hj) (fun t => .inr ⟨(fun j hj => by cases hj), rfl⟩) ⟨0, Nat.zero_le _, q.s0.symm, fun j _ => by simp⟩
    unfold lin
    rw [linGo_eq]
    exact this
  exact ⟨fun t => (key t).choose, fun t => (key t).choose_spec.1, fun t => (key t).choose_spec.2⟩
end
end Go.Proofs.YticpkkjnajmpoaaGreatDoor.KM
