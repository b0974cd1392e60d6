/- Regions that draw their order: every order comes to the text's own end. -/
import Derived.Test.YticpkkjnajmpoaaGreatDoorKu
import Derived.Test.YticpkkjnajmpoaaGreatDoorKb
set_option linter.all false
namespace Go.Proofs.YticpkkjnajmpoaaGreatDoor.KM
open Go
variable {T : Nat → Option AF} {pr : Nat → Option (List V → Option V)}

theorem nodup_len : ∀ (n : Nat) (l : List Nat), l.Nodup → (∀ x ∈ l, x < n) → l.length ≤ n
  | 0, [], _, _ => Nat.le_refl _
  | 0, x :: _, _, h => absurd (h x (by simp)) (by omega)
  | n + 1, l, hn, h => by
    have h1 := nodup_len n (l.erase n) (hn.erase n) (fun x hx => by
      have := (List.Nodup.mem_erase_iff hn).1 hx
      have := h x this.2
      omega)
    rw [List.length_erase] at h1
    split at h1 <;> omega
theorem len_of_all : ∀ (n : Nat) (l : List Nat), (∀ j, j < n → j ∈ l) → n ≤ l.length
  | 0, _, _ => Nat.zero_le _
  | n + 1, l, h => by
    have h1 := len_of_all n (l.erase n) (fun j hj => (List.mem_erase_of_ne (by omega)).2 (h j (by omega)))
    have hn := h n (by omega)
    rw [List.length_erase, if_pos hn] at h1
    have := List.length_pos_of_mem hn
    omega
theorem covers {n : Nat} {l : List Nat} (hn : l.Nodup) (h : ∀ x ∈ l, x < n) (hl : l.length = n) {j : Nat} (hj : j < n) : j ∈ l := by
  rcases Classical.em (j ∈ l) with h' | h'
  · exact h'
  · have := nodup_len n (j :: l) (List.nodup_cons.2 ⟨h', hn⟩) (fun x hx => by
      rcases List.mem_cons.1 hx with rfl | hx
      · exact hj
      · exact h x hx)
    simp at this
    omega

def linRem (deps : List (List Nat)) : Nat → Nat → List Nat → List Nat
  | 0, _, _ => []
  | fuel + 1, t, acc =>
    match ((List.range deps.length).filter (readyB deps acc))[t % ((List.range deps.length).filter (readyB deps acc)).length]? with
    | some i => i :: linRem deps fuel (t / ((List.range deps.length).filter (readyB deps acc)).length) (i :: acc)
    | none => []
theorem linGo_eq (deps : List (List Nat)) : ∀ (fuel t : Nat) (acc : List Nat), linGo deps fuel t acc = acc.reverse ++ linRem deps fuel t acc
  | 0, _, acc => by simp [linGo, linRem]
  | fuel + 1, t, acc => by
    unfold linGo linRem
    simp only
    split
    · rename_i i hi
      rw [linGo_eq deps fuel _ (i :: acc), hi]
      simp
    · rename_i hi
      rw [hi]
      simp

section
variable {deps : List (List Nat)} {ops : List AI} {e e1 : Env} {σ σ1 : St} {env : Nat → Env} {st : Nat → St} {val : Nat → V}

def DC (deps : List (List Nat)) (acc : List Nat) : Prop := ∀ j ∈ acc, ∀ d ∈ deps.getD j [], d ∈ acc
theorem bef_mem {acc : List Nat} (h : DC deps acc) : ∀ (f j i : Nat), befB deps f j i = true → j ∈ acc → i ∈ acc
  | 0, _, _, hb, _ => by simp [befB] at hb
  | f + 1, j, i, hb, hj => by
    simp only [befB, List.any_eq_true, Bool.or_eq_true, beq_iff_eq] at hb
    obtain ⟨d, hd, hb⟩ := hb
    have hda := h j hj d hd
    rcases hb with rfl | hb
    · exact hda
    · exact bef_mem h f d i hb hda
theorem bef_ready {acc : List Nat} (h : DC deps acc) {f j i : Nat} (hr : ∀ d ∈ deps.getD j [], d ∈ acc) (hb : befB deps f j i = true) : i ∈ acc := by
  cases f with
  | zero => simp [befB] at hb
  | succ f =>
    simp only [befB, List.any_eq_true, Bool.or_eq_true, beq_iff_eq] at hb
    obtain ⟨d, hd, hb⟩ := hb
    rcases hb with rfl | hb
    · exact hr d hd
    · exact bef_mem h f d i hb (hr d hd)

structure Stat (T : Nat → Option AF) (pr : Nat → Option (List V → Option V)) (deps : List (List Nat)) (ops : List AI) : Prop where
  len : deps.length = ops.length
  dep : ∀ j, j < ops.length → ∀ d ∈ deps.getD j [], d < j
  pair : ∀ i j x y, i < j → ops[i]? = some x → ops[j]? = some y → befB deps ops.length j i = true ∨ pairB T pr x y = true
theorem stat_of (h : staticB T pr deps ops = true) : Stat T pr deps ops := by
  unfold staticB at h
  simp only [Bool.and_eq_true, beq_iff_eq, List.all_eq_true, List.mem_range, decide_eq_true_eq, Bool.or_eq_true] at h
  refine ⟨h.1, fun j hj d hd => (h.2 j hj).1 d hd, fun i j x y hij hx hy => ?_⟩
  have hj : j < ops.length := (List.getElem?_eq_some_iff.1 hy).1
  rcases (h.2 j hj).2 i hij with h' | h'
  · exact .inl h'
  · rw [hx, hy] at h'
    exact .inr h'

def dstAt (ops : List AI) (j : Nat) : Option Nat := (ops[j]?).bind (·.dst)
def EnvOK (ops : List AI) (val : Nat → V) (e : Env) (M : Nat → Prop) (E : Env) : Prop :=
  ∀ t, (∃ j, M j ∧ dstAt ops j = some t ∧ (∀ j', M j' → dstAt ops j' = some t → j' ≤ j) ∧ E.get t = val j) ∨ ((∀ j, M j → dstAt ops j ≠ some t) ∧ E.get t = e.get t)
theorem EnvOK.put {M : Nat → Prop} {E : Env} {i : Nat} {x : AI} (h : EnvOK ops val e M E) (hx : ops[i]? = some x) (hlt : ∀ j t, M j → x.dst = some t → dstAt ops j = some t → j < i) : EnvOK ops val e (fun j => j = i ∨ M j) (E.putO x.dst (val i)) := by
  intro t
  have hdi : dstAt ops i = x.dst := by simp [dstAt, hx]
  cases hd : x.dst with
  | none =>
    simp only [Env.putO]
    rcases h t with ⟨j, h1, h2, h3, h4⟩ | ⟨h1, h2⟩
    · exact .inl ⟨j, .inr h1, h2, fun j' hj' ht => by
        rcases hj' with rfl | hj'
        · rw [hdi, hd] at ht; cases ht
        · exact h3 j' hj' ht, h4⟩
    · exact .inr ⟨fun j hj => by
        rcases hj with rfl | hj
        · rw [hdi, hd]; simp
        · exact h1 j hj, h2⟩
  | some d =>
    simp only [Env.putO]
    rw [Env.get_put]
    by_cases hdt : d = t
    · subst hdt
      rw [if_pos rfl]
      exact .inl ⟨i, .inl rfl, by rw [hdi, hd], fun j' hj' ht => by
        rcases hj' with rfl | hj'
        · exact Nat.le_refl _
        · exact Nat.le_of_lt (hlt j' d hj' hd ht), rfl⟩
    · rw [if_neg hdt]
      rcases h t with ⟨j, h1, h2, h3, h4⟩ | ⟨h1, h2⟩
      · exact .inl ⟨j, .inr h1, h2, fun j' hj' ht => by
          rcases hj' with rfl | hj'
          · rw [hdi, hd] at ht; cases ht; exact absurd rfl hdt
          · exact h3 j' hj' ht, h4⟩
      · exact .inr ⟨fun j hj => by
          rcases hj with rfl | hj
          · rw [hdi, hd]; intro h; cases h; exact hdt rfl
          · exact h1 j hj, h2⟩
theorem EnvOK.same {M M' : Nat → Prop} {E E' : Env} (h : EnvOK ops val e M E) (h' : EnvOK ops val e M' E') {t : Nat} (ht : ∀ j, dstAt ops j = some t → (M j ↔ M' j)) : E.get t = E'.get t := by
  rcases h t with ⟨j, h1, h2, h3, h4⟩ | ⟨h1, h2⟩
  · rcases h' t with ⟨k, k1, k2, k3, k4⟩ | ⟨k1, k2⟩
    · have a1 := h3 k ((ht k k2).2 k1) k2
      have a2 := k3 j ((ht j h2).1 h1) h2
      rw [h4, k4, Nat.le_antisymm a2 a1]
    · exact absurd h2 (k1 j ((ht j h2).1 h1))
  · rcases h' t with ⟨k, k1, k2, k3, k4⟩ | ⟨k1, k2⟩
    · exact absurd k2 (h1 k ((ht k k2).2 k1))
    · rw [h2, k2]

theorem EnvOK.iff {M M' : Nat → Prop} {E : Env} (h : EnvOK ops val e M E) (hm : ∀ j, M j ↔ M' j) : EnvOK ops val e M' E := by
  have : M = M' := funext fun j => propext (hm j)
  rw [← this]; exact h

theorem text_env (q : Sq T pr deps ops.length 0 ops e σ [] [] e1 σ1 env st val) : ∀ i, i ≤ ops.length → EnvOK ops val e (fun j => j < i) (env i)
  | 0, _ => fun t => .inr ⟨fun j hj => by omega, by rw [q.e0]⟩
  | i + 1, hi => by
    have ih := text_env q i (by omega)
    obtain ⟨x, hx⟩ : ∃ x, ops[i]? = some x := ⟨ops[i], List.getElem?_eq_getElem (by omega)⟩
    have hs := (q.stp i x hx).2.1
    simp only [Nat.zero_add] at hs
    rw [hs]
    exact (ih.put hx (fun j t hj _ _ => hj)).iff (fun j => by omega)

def effAt (T : Nat → Option AF) (pr : Nat → Option (List V → Option V)) (ops : List AI) (j : Nat) : Prop := ∃ x, ops[j]? = some x ∧ cls T pr x.op = 2
theorem st_flat (q : Sq T pr deps ops.length 0 ops e σ [] [] e1 σ1 env st val) {α : Type} (f : St → α) : ∀ (d a : Nat), a + d ≤ ops.length → (∀ k, a ≤ k → k < a + d → effAt T pr ops k → f (st (k + 1)) = f (st k)) → f (st (a + d)) = f (st a)
  | 0, a, _, _ => rfl
  | d + 1, a, hle, h => by
    have ih := st_flat q f d a (by omega) (fun k h1 h2 => h k h1 (by omega))
    rw [← ih]
    obtain ⟨x, hx⟩ : ∃ x, ops[a + d]? = some x := ⟨ops[a + d], List.getElem?_eq_getElem (by omega)⟩
    by_cases hc : cls T pr x.op = 2
    · exact h (a + d) (by omega) (by omega) ⟨x, hx, hc⟩
    · have := (q.stp (a + d) x hx).2.2.1 hc
      simp only [Nat.zero_add] at this
      rw [show a + (d + 1) = a + d + 1 from rfl, this]
def StOK (T : Nat → Option AF) (pr : Nat → Option (List V → Option V)) (ops : List AI) (st : Nat → St) (acc : List Nat) (S' : St) : Prop :=
  ∃ m, m ≤ ops.length ∧ S' = st m ∧ ∀ j, effAt T pr ops j → (j < m ↔ j ∈ acc)

theorem run_any (hst : Stat T pr deps ops) (q : Sq T pr deps ops.length 0 ops e σ [] [] e1 σ1 env st val) : ∀ (fuel t : Nat) (acc : List Nat) (E : Env) (S' : St), acc.length + fuel = ops.length → acc.Nodup → (∀ i ∈ acc, i < ops.length) → DC deps acc →
    EnvOK ops val e (· ∈ acc) E → StOK T pr ops st acc S' → ∃ E', Ev T pr (.ops (pickAI ops (linRem deps fuel t acc)) E S' E' σ1) ∧ ∀ m, E'.get m = e1.get m
  | 0, t, acc, E, S', hl, hn, hlt, hdc, hE, ⟨m, hm, hS, heff⟩ => by
    have hall : ∀ j, j < ops.length → j ∈ acc := fun j hj => covers hn hlt (by omega) hj
    refine ⟨E, ?_, fun k => ?_⟩
    · have hs1 : S' = σ1 := by
        rw [hS, ← q.s1, Nat.zero_add]
        obtain ⟨d, hd⟩ : ∃ d, m + d = ops.length := ⟨ops.length - m, by omega⟩
        rw [← hd]
        refine (st_flat q id d m (by omega) (fun k h1 h2 he => ?_)).symm
        have := (heff k he).2 (hall k (by omega))
        omega
      rw [hs1]
      exact .opsNil
    · have ht := text_env q ops.length (Nat.le_refl _)
      have he1 := q.e1
      rw [Nat.zero_add] at he1
      rw [← he1]
      exact hE.same ht (fun j hj => ⟨fun h => hlt j h, fun h => hall j h⟩)
  | fuel + 1, t, acc, E, S', hl, hn, hlt, hdc, hE, ⟨m, hm, hS, heff⟩ => by
    -- somebody may come next
    have hsome : ∃ j, j < ops.length ∧ j ∉ acc ∧ ∀ d ∈ deps.getD j [], d ∈ acc := by
      have hex : ∃ j, j < ops.length ∧ j ∉ acc := by
        rcases Classical.em (∃ j, j < ops.length ∧ j ∉ acc) with h | h
        · exact h
        · exfalso
          have hsub : ∀ j, j < ops.length → j ∈ acc := fun j hj => Classical.byContradiction fun hc => h ⟨j, hj, hc⟩
          have h1 := len_of_all ops.length acc hsub
          omega
      have : ∀ k, ∀ j, j ≤ k → j < ops.length → j ∉ acc → ∃ j, j < ops.length ∧ j ∉ acc ∧ ∀ d ∈ deps.getD j [], d ∈ acc := by
        intro k
        induction k with
        | zero =>
          intro j hj h1 h2
          obtain rfl : j = 0 := by omega
          exact ⟨0, h1, h2, fun d hd => absurd (hst.dep 0 h1 d hd) (by omega)⟩
        | succ k ih =>
          intro j hj h1 h2
          by_cases hall : ∀ d ∈ deps.getD j [], d ∈ acc
          · exact ⟨j, h1, h2, hall⟩
          · obtain ⟨d, hd, hda⟩ : ∃ d, d ∈ deps.getD j [] ∧ d ∉ acc := Classical.byContradiction fun hc => hall fun d hd => Classical.byContradiction fun hda => hc ⟨d, hd, hda⟩
            have := hst.dep j h1 d hd
            exact ih d (by omega) (by omega) hda
      obtain ⟨j, h1, h2⟩ := hex
      exact this j j (Nat.le_refl _) h1 h2
    unfold linRem
    generalize hrs : (List.range deps.length).filter (readyB deps acc) = rs
    have hpos : 0 < rs.length := by
      obtain ⟨j, h1, h2, h3⟩ := hsome
      have : j ∈ rs := by
        rw [← hrs, List.mem_filter]
        refine ⟨by rw [List.mem_range, hst.len]; exact h1, ?_⟩
        simp only [readyB, Bool.and_eq_true, Bool.not_eq_true', List.all_eq_true]
        refine ⟨?_, fun d hd => List.elem_iff.2 (h3 d hd)⟩
        cases hel : acc.elem j with
        | false => rfl
        | true => exact absurd (List.elem_iff.1 hel) h2
      exact List.length_pos_of_mem this
    have hget : rs[t % rs.length]? = some (rs[t % rs.length]'(Nat.mod_lt _ hpos)) := List.getElem?_eq_getElem _
    generalize rs[t % rs.length]'(Nat.mod_lt _ hpos) = i at hget
    rw [hget]
    have hin : i ∈ rs := List.mem_of_getElem? hget
    rw [← hrs, List.mem_filter] at hin
    obtain ⟨hir, hready⟩ := hin
    have hi : i < ops.length := by rw [List.mem_range, hst.len] at hir; exact hir
    simp only [readyB, Bool.and_eq_true, Bool.not_eq_true', List.all_eq_true] at hready
    have hia : i ∉ acc := fun h => by rw [List.elem_iff.2 h] at hready; cases hready.1
    have hdeps : ∀ d ∈ deps.getD i [], d ∈ acc := fun d hd => List.elem_iff.1 (hready.2 d hd)
    obtain ⟨x, hx⟩ : ∃ x, ops[i]? = some x := ⟨ops[i], List.getElem?_eq_getElem hi⟩
    -- pairs
    have hup : ∀ j y, i < j → ops[j]? = some y → j ∈ acc → pairB T pr x y = true := fun j y hij hy hj => by
      rcases hst.pair i j x y hij hx hy with h | h
      · exact absurd (bef_mem hdc _ j i h hj) hia
      · exact h
    have hdn : ∀ j y, j < i → ops[j]? = some y → j ∉ acc → pairB T pr y x = true := fun j y hij hy hj => by
      rcases hst.pair j i y x hij hy hx with h | h
      · exact absurd (bef_ready hdc hdeps h) hj
      · exact h
    have dst_some : ∀ {j t : Nat}, dstAt ops j = some t → ∃ y, ops[j]? = some y ∧ y.dst = some t := fun {j t} h => by
      unfold dstAt at h
      cases hy : ops[j]? with
      | none => rw [hy] at h; simp at h
      | some y => rw [hy] at h; exact ⟨y, rfl, by simpa using h⟩
    have hagree : Agree (env i) E x.rd := fun t ht => by
      refine (text_env q i (by omega)).same hE (fun j hj => ?_)
      obtain ⟨y, hy, hyd⟩ := dst_some hj
      constructor
      · intro hlt'
        rcases Classical.em (j ∈ acc) with h | h
        · exact h
        · have := hdn j y hlt' hy h
          simp only [pairB, hyd, Bool.and_eq_true, Bool.not_eq_true'] at this
          have h1 := this.1.1
          rw [List.elem_iff.2 ht] at h1
          cases h1
      · intro hja
        rcases Nat.lt_trichotomy j i with h | h | h
        · exact h
        · subst h; exact absurd hja hia
        · have := hup j y h hy hja
          simp only [pairB, hyd, Bool.and_eq_true, Bool.not_eq_true'] at this
          have h1 := this.2.1
          rw [List.elem_iff.2 ht] at h1
          cases h1
    obtain ⟨hstp, henv, hcalm, hkind⟩ := q.stp i x hx
    simp only [Nat.zero_add] at hstp henv hcalm
    obtain ⟨m1, m2, m3, m4⟩ := hstp.move hagree
    have hE' : EnvOK ops val e (· ∈ i :: acc) (E.putO x.dst (val i)) := (hE.put hx (fun j t hj hxd hjd => by
      obtain ⟨y, hy, hyd⟩ := dst_some hjd
      rcases Nat.lt_trichotomy j i with h | h | h
      · exact h
      · subst h; exact absurd hj hia
      · have := hup j y h hy hj
        simp only [pairB, hxd, hyd, Bool.and_eq_true, Bool.not_eq_true'] at this
        have h1 := this.1.2
        simp at h1)).iff (fun j => by simp [List.mem_cons])
    have hdc' : DC deps (i :: acc) := fun j hj d hd => by
      rcases List.mem_cons.1 hj with rfl | hj
      · exact List.mem_cons_of_mem _ (hdeps d hd)
      · exact List.mem_cons_of_mem _ (hdc j hj d hd)
    have next : ∀ S2, StOK T pr ops st (i :: acc) S2 → Stp T pr x E S' (val i) S2 → ∃ E', Ev T pr (.ops (pickAI ops (i :: linRem deps fuel (t / rs.length) (i :: acc))) E S' E' σ1) ∧ ∀ m, E'.get m = e1.get m := fun S2 hS2 hs2 => by
      obtain ⟨E', h1, h2⟩ := run_any hst q fuel (t / rs.length) (i :: acc) _ S2 (by simp; omega) (List.nodup_cons.2 ⟨hia, hn⟩) (fun j hj => by
        rcases List.mem_cons.1 hj with rfl | hj
        · exact hi
        · exact hlt j hj) hdc' hE' hS2
      refine ⟨E', ?_, h2⟩
      have : pickAI ops (i :: linRem deps fuel (t / rs.length) (i :: acc)) = x :: pickAI ops (linRem deps fuel (t / rs.length) (i :: acc)) := by
        unfold pickAI
        rw [List.filterMap_cons, hx]
      rw [this]
      exact hs2.ev h1
    -- effects: all ahead of i have been, none behind it
    by_cases h2 : cls T pr x.op = 2
    · have hflat : ∀ k, effAt T pr ops k → (k ∈ acc ↔ k < i) := fun k ⟨y, hy, hyc⟩ => by
        constructor
        · intro hk
          rcases Nat.lt_trichotomy k i with h | h | h
          · exact h
          · subst h; exact absurd hk hia
          · have := hup k y h hy hk
            simp [pairB, h2, hyc] at this
        · intro hk
          rcases Classical.em (k ∈ acc) with h | h
          · exact h
          · have := hdn k y hk hy h
            simp [pairB, h2, hyc] at this
      have hSi : S' = st i := by
        rw [hS]
        rcases Nat.le_total m i with hmi | hmi
        · obtain ⟨d, rfl⟩ := Nat.exists_eq_add_of_le hmi
          exact (st_flat q id d m (by omega) (fun k a1 a2 he => by
            have := (heff k he).2 ((hflat k he).2 a2)
            omega)).symm
        · obtain ⟨d, rfl⟩ := Nat.exists_eq_add_of_le hmi
          exact st_flat q id d i (by omega) (fun k a1 a2 he => by
            have := (hflat k he).1 ((heff k he).1 a2)
            omega)
      rw [hSi] at next ⊢
      refine next (st (i + 1)) ⟨i + 1, by omega, rfl, fun k he => ?_⟩ m1
      rw [List.mem_cons, hflat k he]
      omega
    · have hS2 : StOK T pr ops st (i :: acc) S' := ⟨m, hm, hS, fun k he => by
        rw [heff k he, List.mem_cons]
        constructor
        · exact .inr
        · rintro (rfl | h)
          · obtain ⟨y, hy, hyc⟩ := he
            rw [hx] at hy
            cases hy
            exact absurd hyc h2
          · exact h⟩
      refine next S' hS2 ?_
      rcases hkind with h0 | h0 | ⟨n', one, p, hop⟩
      · exact m3 h0 S'
      · exact absurd h0 h2
      · refine m4 n' one p hop S' ?_
        -- what it reads is the same
        have hone : ∀ k, effAt T pr ops k → (k ∈ acc ∧ i < k ∨ k ∉ acc ∧ k < i) → loadV (st (k + 1)) n' one (src (env i) p) = loadV (st k) n' one (src (env i) p) := fun k ⟨y, hy, hyc⟩ hk => by
          have hd := q.d1 i k x y n' one p hx hy hop hyc
          simp only [Nat.zero_add] at hd
          rcases hd with h | h | h
          · -- k ahead of i
            have hka := bef_ready hdc hdeps h
            rcases hk with ⟨_, hlt'⟩ | ⟨hk, _⟩
            · exfalso
              have hb : ∀ f j c, j < ops.length → befB deps f j c = true → c < j := by
                intro f
                induction f with
                | zero => intro j c _ h; simp [befB] at h
                | succ f ih =>
                  intro j c hj h
                  simp only [befB, List.any_eq_true, Bool.or_eq_true, beq_iff_eq] at h
                  obtain ⟨d, hd, h⟩ := h
                  have hdj := hst.dep j hj d hd
                  rcases h with rfl | h
                  · exact hdj
                  · have := ih d c (by omega) h
                    omega
              have := hb _ i k hi h
              omega
            · exact absurd hka hk
          · rcases hk with ⟨hk, _⟩ | ⟨hk, hlt'⟩
            · exact absurd (bef_mem hdc _ k i h hk) hia
            · exfalso
              have hb : ∀ f j c, j < ops.length → befB deps f j c = true → c < j := by
                intro f
                induction f with
                | zero => intro j c _ h; simp [befB] at h
                | succ f ih =>
                  intro j c hj h
                  simp only [befB, List.any_eq_true, Bool.or_eq_true, beq_iff_eq] at h
                  obtain ⟨d, hd, h⟩ := h
                  have hdj := hst.dep j hj d hd
                  rcases h with rfl | h
                  · exact hdj
                  · have := ih d c (by omega) h
                    omega
              have := hb _ k i (by omega) h
              omega
          · exact h
        rw [hS]
        rcases Nat.le_total m i with hmi | hmi
        · obtain ⟨d, rfl⟩ := Nat.exists_eq_add_of_le hmi
          exact (st_flat q (fun s => loadV s n' one (src (env (m + d)) p)) d m (by omega) (fun k a1 a2 he => hone k he (.inr ⟨fun hka => by
            have := (heff k he).2 hka
            omega, a2⟩))).symm
        · obtain ⟨d, rfl⟩ := Nat.exists_eq_add_of_le hmi
          exact st_flat q (fun s => loadV s n' one (src (env i) p)) d i (by omega) (fun k a1 a2 he => by
            have hka := (heff k he).1 a2
            rcases Nat.eq_or_lt_of_le a1 with rfl | h
            · exact absurd hka hia
            · exact hone k he (.inl ⟨hka, h⟩))

/-- ONE WALK IN THE ORDER OF THE TEXT SERVES A REGION THAT DRAWS ITS ORDER -/
theorem draw_ok (hst : staticB T pr deps ops = true) (h : TE T pr deps ops.length 0 ops e σ [] [] e1 σ1) : ∃ E2 : Nat → Env, (∀ t, Ev T pr (.ops (pickAI ops (lin deps t)) e σ (E2 t) σ1)) ∧ ∀ t n, (E2 t).get n = e1.get n := by
  obtain ⟨env, st, val, q⟩ := h.sq
  have S := stat_of hst
  have key : ∀ t, ∃ E', Ev T pr (.ops (pickAI ops (lin deps t)) e σ E' σ1) ∧ ∀ m, E'.get m = e1.get m := fun t => by
    have := run_any S q deps.length t [] e σ (by simp [S.len]) List.nodup_nil (fun i hi => by cases hi) (fun j hj => by cases hj) (fun t => .inr ⟨(fun j hj => by cases hj), rfl⟩) ⟨0, Nat.zero_le _, q.s0.symm, fun j _ => by simp⟩
    unfold lin
    rw [linGo_eq]
    exact this
  exact ⟨fun t => (key t).choose, fun t => (key t).choose_spec.1, fun t => (key t).choose_spec.2⟩
end

end Go.Proofs.YticpkkjnajmpoaaGreatDoor.KM
