/- Regions in which two effects have no order: they are walked once for each order. -/
import Derived.Test.YtlehfgdhebapeaaDoorA5
set_option linter.all false
namespace Go.Proofs.YtlehfgdhebapeaaDoor.KM
open Go
variable {T : Nat → Option AF} {pr : Nat → Option (List V → Option V)}
/-- a way to draw what is left -/
inductive LXt (deps : List (List Nat)) (n : Nat) : List Nat → List Nat → Prop
  | nil {acc : List Nat} : acc.length = n → LXt deps n acc []
  | cons {acc : List Nat} {i : Nat} {L : List Nat} : i < n → i ∉ acc → (∀ d ∈ deps.getD i [], d ∈ acc) → LXt deps n (i :: acc) L → LXt deps n acc (i :: L)
theorem lin_lx {deps : List (List Nat)} {n : Nat} (hn : deps.length = n) (hdep : ∀ j, j < n → ∀ d ∈ deps.getD j [], d < j) : ∀ (fuel t : Nat) (acc : List Nat), acc.length + fuel = n → acc.Nodup → (∀ i ∈ acc, i < n) → LXt deps n acc (linRem deps fuel t acc)
  | 0, t, acc, hl, _, _ => .nil (by omega)
  | fuel + 1, t, acc, hl, hnd, hlt => by
    have hsome : ∃ j, j < n ∧ j ∉ acc ∧ ∀ d ∈ deps.getD j [], d ∈ acc := by
      have hex : ∃ j, j < n ∧ j ∉ acc := by
        rcases Classical.em (∃ j, j < n ∧ j ∉ acc) with h | h
        · exact h
        · exfalso
          have hsub : ∀ j, j < n → j ∈ acc := fun j hj => Classical.byContradiction fun hc => h ⟨j, hj, hc⟩
          have h1 := len_of_all n acc hsub
          omega
      have : ∀ k, ∀ j, j ≤ k → j < n → j ∉ acc → ∃ j, j < n ∧ j ∉ acc ∧ ∀ d ∈ deps.getD j [], d ∈ acc := by
        intro k
        induction k with
        | zero =>
          intro j hj h1 h2
          obtain rfl : j = 0 := by omega
          exact ⟨0, h1, h2, fun d hd => absurd (hdep 0 h1 d hd) (by omega)⟩
        | succ k ih =>
          intro j hj h1 h2
          by_cases hall : ∀ d ∈ deps.getD j [], d ∈ acc
          · exact ⟨j, h1, h2, hall⟩
          · obtain ⟨d, hd, hda⟩ : ∃ d, d ∈ deps.getD j [] ∧ d ∉ acc := Classical.byContradiction fun hc => hall fun d hd => Classical.byContradiction fun hda => hc ⟨d, hd, hda⟩
            have := hdep j h1 d hd
            exact ih d (by omega) (by omega) hda
      obtain ⟨j, h1, h2⟩ := hex
      exact this j j (Nat.le_refl _) h1 h2
    unfold linRem
    generalize hrs : (List.range deps.length).filter (readyB deps acc) = rs
    have hpos : 0 < rs.length := by
      obtain ⟨j, h1, h2, h3⟩ := hsome
      have : j ∈ rs := by
        rw [← hrs, List.mem_filter]
        refine ⟨by rw [List.mem_range, hn]; exact h1, ?_⟩
        simp only [readyB, Bool.and_eq_true, Bool.not_eq_true', List.all_eq_true]
        refine ⟨?_, fun d hd => List.elem_iff.2 (h3 d hd)⟩
        cases hel : acc.elem j with
        | false => rfl
        | true => exact absurd (List.elem_iff.1 hel) h2
      exact List.length_pos_of_mem this
    have hget : rs[t % rs.length]? = some (rs[t % rs.length]'(Nat.mod_lt _ hpos)) := List.getElem?_eq_getElem _
    generalize rs[t % rs.length]'(Nat.mod_lt _ hpos) = i at hget
    rw [hget]
    have hin : i ∈ rs := List.mem_of_getElem? hget
    rw [← hrs, List.mem_filter] at hin
    obtain ⟨hir, hready⟩ := hin
    have hi : i < n := by rw [List.mem_range, hn] at hir; exact hir
    simp only [readyB, Bool.and_eq_true, Bool.not_eq_true', List.all_eq_true] at hready
    have hia : i ∉ acc := fun h => by rw [List.elem_iff.2 h] at hready; cases hready.1
    have hdeps : ∀ d ∈ deps.getD i [], d ∈ acc := fun d hd => List.elem_iff.1 (hready.2 d hd)
    exact .cons hi hia hdeps (lin_lx hn hdep fuel _ (i :: acc) (by simp; omega) (List.nodup_cons.2 ⟨hia, hnd⟩) (fun j hj => by
      rcases List.mem_cons.1 hj with rfl | hj
      · exact hi
      · exact hlt j hj))
section
variable {deps : List (List Nat)} {ops : List AI} {e e1 : Env} {σ σ1 : St} {env : Nat → Env} {st : Nat → St} {val : Nat → V} {ro : Nat → Option (St → Prop)}
theorem run_any3 (hst : StaP deps ops) (q : Sr T pr deps ops.length 0 ops e σ [] [] e1 σ1 env st val ro) : ∀ (L acc : List Nat) (E : Env) (S' : St), LXt deps ops.length acc L → acc.Nodup → (∀ i ∈ acc, i < ops.length) → DC deps acc →
    EnvOK ops val e (· ∈ acc) E → StP ops ro st acc S' → ∃ E', Ev T pr (.ops (pickAI ops L) E S' E' σ1) ∧ ∀ m, E'.get m = e1.get m
  | [], acc, E, S', .nil hl, hn, hlt, hdc, hE, ⟨m, hm, hS, heff⟩ => by
    have hall : ∀ j, j < ops.length → j ∈ acc := fun j hj => covers hn hlt (by omega) hj
    refine ⟨E, ?_, fun k => ?_⟩
    · have hs1 : S' = σ1 := by
        rw [hS, ← q.s1, Nat.zero_add]
        obtain ⟨d, hd⟩ : ∃ d, m + d = ops.length := ⟨ops.length - m, by omega⟩
        rw [← hd]
        refine (st_flat2 q id d m (by omega) (fun k h1 h2 he => ?_)).symm
        have := (heff k he).2 (hall k (by omega))
        omega
      rw [hs1]
      exact .opsNil
    · have ht := text_env2 q ops.length (Nat.le_refl _)
      have he1 := q.e1
      rw [Nat.zero_add] at he1
      rw [← he1]
      exact hE.same ht (fun j hj => ⟨fun h => hlt j h, fun h => hall j h⟩)
  | i :: L, acc, E, S', .cons hi hia hdeps hL, hn, hlt, hdc, hE, ⟨m, hm, hS, heff⟩ => by
    obtain ⟨x, hx⟩ : ∃ x, ops[i]? = some x := ⟨ops[i], List.getElem?_eq_getElem hi⟩
    have hup : ∀ j y, i < j → ops[j]? = some y → j ∈ acc → pairP x y = true := fun j y hij hy hj => by
      rcases hst.pair i j x y hij hx hy with h | h
      · exact absurd (bef_mem hdc _ j i h hj) hia
      · exact h
    have hdn : ∀ j y, j < i → ops[j]? = some y → j ∉ acc → pairP y x = true := fun j y hij hy hj => by
      rcases hst.pair j i y x hij hy hx with h | h
      · exact absurd (bef_ready hdc hdeps h) hj
      · exact h
    have dst_some : ∀ {j t : Nat}, dstAt ops j = some t → ∃ y, ops[j]? = some y ∧ y.dst = some t := fun {j t} h => by
      unfold dstAt at h
      cases hy : ops[j]? with
      | none => rw [hy] at h; simp at h
      | some y => rw [hy] at h; exact ⟨y, rfl, by simpa using h⟩
    have hagree : Agree (env i) E x.rd := fun t ht => by
      refine (text_env2 q i (by omega)).same hE (fun j hj => ?_)
      obtain ⟨y, hy, hyd⟩ := dst_some hj
      constructor
      · intro hlt'
        rcases Classical.em (j ∈ acc) with h | h
        · exact h
        · have := hdn j y hlt' hy h
          simp only [pairP, hyd, Bool.and_eq_true, Bool.not_eq_true'] at this
          have h1 := this.1.1
          rw [List.elem_iff.2 ht] at h1
          cases h1
      · intro hja
        rcases Nat.lt_trichotomy j i with h | h | h
        · exact h
        · subst h; exact absurd hja hia
        · have := hup j y h hy hja
          simp only [pairP, hyd, Bool.and_eq_true, Bool.not_eq_true'] at this
          have h1 := this.2
          rw [List.elem_iff.2 ht] at h1
          cases h1
    obtain ⟨henv, hkind⟩ := q.stp i x hx
    simp only [Nat.zero_add] at henv hkind
    have hE' : EnvOK ops val e (· ∈ i :: acc) (E.putO x.dst (val i)) := (hE.put hx (fun j t hj hxd hjd => by
      obtain ⟨y, hy, hyd⟩ := dst_some hjd
      rcases Nat.lt_trichotomy j i with h | h | h
      · exact h
      · subst h; exact absurd hj hia
      · have := hup j y h hy hj
        simp only [pairP, hxd, hyd, Bool.and_eq_true, Bool.not_eq_true'] at this
        have h1 := this.1.2
        simp at h1)).iff (fun j => by simp [List.mem_cons])
    have hdc' : DC deps (i :: acc) := fun j hj d hd => by
      rcases List.mem_cons.1 hj with rfl | hj
      · exact List.mem_cons_of_mem _ (hdeps d hd)
      · exact List.mem_cons_of_mem _ (hdc j hj d hd)
    have next : ∀ S2, StP ops ro st (i :: acc) S2 → Sg T pr x E S' (val i) S2 → ∃ E', Ev T pr (.ops (pickAI ops (i :: L)) E S' E' σ1) ∧ ∀ m, E'.get m = e1.get m := fun S2 hS2 hs2 => by
      obtain ⟨E', h1, h2⟩ := run_any3 hst q L (i :: acc) _ S2 hL (List.nodup_cons.2 ⟨hia, hn⟩) (fun j hj => by
        rcases List.mem_cons.1 hj with rfl | hj
        · exact hi
        · exact hlt j hj) hdc' hE' hS2
      refine ⟨E', ?_, h2⟩
      have : pickAI ops (i :: L) = x :: pickAI ops L := by
        unfold pickAI
        rw [List.filterMap_cons, hx]
      rw [this]
      exact hs2.ev h1
    have hb := bef_lt hst.dep
    cases hro : ro i with
    | none =>
      rw [hro] at hkind
      have hkind : Sg T pr x (env i) (st i) (val i) (st (i + 1)) := hkind
      have hflat : ∀ k, efAt ops ro k → (k ∈ acc ↔ k < i) := fun k ⟨hkl, hk0⟩ => by
        constructor
        · intro hk
          rcases Nat.lt_trichotomy k i with h | h | h
          · exact h
          · subst h; exact absurd hk hia
          · have := q.d0 i k h hkl (by simpa using hro) (by simpa using hk0)
            simp only [Nat.zero_add] at this
            exact absurd (bef_mem hdc _ k i this hk) hia
        · intro hk
          have := q.d0 k i hk hi (by simpa using hk0) (by simpa using hro)
          simp only [Nat.zero_add] at this
          exact bef_ready hdc hdeps this
      have hSi : S' = st i := by
        rw [hS]
        rcases Nat.le_total m i with hmi | hmi
        · obtain ⟨d, rfl⟩ := Nat.exists_eq_add_of_le hmi
          exact (st_flat2 q id d m (by omega) (fun k a1 a2 he => by
            have := (heff k he).2 ((hflat k he).2 a2)
            omega)).symm
        · obtain ⟨d, rfl⟩ := Nat.exists_eq_add_of_le hmi
          exact st_flat2 q id d i (by omega) (fun k a1 a2 he => by
            have := (hflat k he).1 ((heff k he).1 a2)
            omega)
      rw [hSi] at next ⊢
      refine next (st (i + 1)) ⟨i + 1, by omega, rfl, fun k he => ?_⟩ (hkind.move hagree)
      rw [List.mem_cons, hflat k he]
      omega
    | some R =>
      rw [hro] at hkind
      obtain ⟨hk1, hk2, hk3⟩ : st (i + 1) = st i ∧ R (st i) ∧ ∀ s', R s' → Sg T pr x (env i) s' (val i) s' := hkind
      have hS2 : StP ops ro st (i :: acc) S' := ⟨m, hm, hS, fun k he => by
        rw [heff k he, List.mem_cons]
        constructor
        · exact .inr
        · rintro (rfl | h)
          · rw [he.2] at hro; cases hro
          · exact h⟩
      refine next S' hS2 ((hk3 S' ?_).move hagree)
      have hone : ∀ k, efAt ops ro k → (k ∈ acc ∧ i < k ∨ k ∉ acc ∧ k < i) → R (st (k + 1)) = R (st k) := fun k ⟨hkl, hk0⟩ hk => by
        have hd := q.d1 i k R hi hkl (by simpa using hro) (by simpa using hk0)
        simp only [Nat.zero_add] at hd
        rcases hd with h | h | h
        · have hka := bef_ready hdc hdeps h
          rcases hk with ⟨_, hlt'⟩ | ⟨hk, _⟩
          · have := hb _ i k hi h
            omega
          · exact absurd hka hk
        · rcases hk with ⟨hk, _⟩ | ⟨hk, hlt'⟩
          · exact absurd (bef_mem hdc _ k i h hk) hia
          · have := hb _ k i (by omega) h
            omega
        · exact propext h
      rw [hS]
      rcases Nat.le_total m i with hmi | hmi
      · obtain ⟨d, rfl⟩ := Nat.exists_eq_add_of_le hmi
        have := st_flat2 q R d m (by omega) (fun k a1 a2 he => hone k he (.inr ⟨fun hka => by
          have := (heff k he).2 hka
          omega, a2⟩))
        rw [← this]
        exact hk2
      · obtain ⟨d, rfl⟩ := Nat.exists_eq_add_of_le hmi
        have := st_flat2 q R d i (by omega) (fun k a1 a2 he => by
          have hka := (heff k he).1 a2
          rcases Nat.eq_or_lt_of_le a1 with rfl | h
          · exact absurd hka hia
          · exact hone k he (.inl ⟨hka, h⟩))
        rw [this]
        exact hk2
theorem draw3_ok (hst : statP deps ops = true) (h : TG T pr deps ops.length 0 ops e σ [] [] e1 σ1) {L : List Nat} (hL : LXt deps ops.length [] L) : ∃ E', Ev T pr (.ops (pickAI ops L) e σ E' σ1) ∧ ∀ m, E'.get m = e1.get m := by
  obtain ⟨env, st, val, ro, q⟩ := h.sr
  exact run_any3 (staP_of hst) q L [] e σ hL List.nodup_nil (fun i hi => by cases hi) (fun j hj => by cases hj) (fun t => .inr ⟨(fun j hj => by cases hj), rfl⟩) ⟨0, Nat.zero_le _, q.s0.symm, fun j _ => by simp⟩
end
/-- a comes before b -/
def Bef (L : List Nat) (a b : Nat) : Prop := ∀ L1 L2, L = L1 ++ b :: L2 → a ∈ L1
theorem bef_or {L : List Nat} {a b : Nat} (hab : a ≠ b) : Bef L a b ∨ Bef L b a := by
  rcases Classical.em (Bef L a b) with h | h
  · exact .inl h
  · refine .inr ?_
    unfold Bef at h
    obtain ⟨L1, h⟩ := Classical.not_forall.1 h
    obtain ⟨L2, h⟩ := Classical.not_forall.1 h
    obtain ⟨h1, h2⟩ := Classical.not_imp.1 h
    intro M1 M2 h3
    rw [h1] at h3
    rcases List.append_eq_append_iff.1 h3 with ⟨c, rfl, h4⟩ | ⟨c, rfl, h4⟩
    · cases c with
      | nil => simp at h4; exact absurd h4.1.symm hab
      | cons x c => simp at h4; simp [h4.1]
    · cases c with
      | nil => simp at h4; exact absurd h4.1 hab
      | cons x c => simp at h4; exact absurd (by simp [h4.1]) h2
/-- the region gives e1, σ1 whenever the draw keeps X -/
def DR (T : Nat → Option AF) (pr : Nat → Option (List V → Option V)) (deps : List (List Nat)) (X : List (Nat × Nat)) (ops : List AI) (e : Env) (σ : St) (e1 : Env) (σ1 : St) : Prop :=
  ∀ L, LXt deps ops.length [] L → (∀ p ∈ X, Bef L p.1 p.2) → ∃ E', Ev T pr (.ops (pickAI ops L) e σ E' σ1) ∧ ∀ m, E'.get m = e1.get m
section
variable {deps : List (List Nat)} {ops : List AI} {e e1 : Env} {σ σ1 : St} {X : List (Nat × Nat)}
theorem dr_split (a b : Nat) (hab : a ≠ b) (h1 : DR T pr deps ((a, b) :: X) ops e σ e1 σ1) (h2 : DR T pr deps ((b, a) :: X) ops e σ e1 σ1) : DR T pr deps X ops e σ e1 σ1 := fun L hL hX => by
  rcases bef_or (L := L) hab with h | h
  · exact h1 L hL fun p hp => by
      rcases List.mem_cons.1 hp with rfl | hp
      · exact h
      · exact hX p hp
  · exact h2 L hL fun p hp => by
      rcases List.mem_cons.1 hp with rfl | hp
      · exact h
      · exact hX p hp
def inv (P : List Nat) (i : Nat) : Nat := P.idxOf i
/-- P is an order of the operations; deps' are the ties that hold among them then -/
def permB (deps deps' : List (List Nat)) (X : List (Nat × Nat)) (n : Nat) (P : List Nat) : Bool :=
  P.length == n && ((List.range n).all fun i => P[inv P i]? == some i && decide (inv P i < n) && ((deps'.getD (inv P i) []).all fun d' => ((deps.getD i []).any fun d => inv P d == d') || X.any fun p => p.2 == i && inv P p.1 == d'))
theorem pick_inv {P : List Nat} {ops ops' : List AI} (ho : pickAI ops P = ops') (hlen : ops'.length = P.length) (hP : ∀ i ∈ P, i < ops.length) : ∀ L : List Nat, (∀ i ∈ L, P[inv P i]? = some i) → pickAI ops' (L.map (inv P)) = pickAI ops L
  | [], _ => rfl
  | i :: L, h => by
    have ih := pick_inv ho hlen hP L fun j hj => h j (List.mem_cons_of_mem _ hj)
    have hi := h i List.mem_cons_self
    have key : ∀ (P : List Nat) (k : Nat) (i : Nat), (∀ i ∈ P, i < ops.length) → P[k]? = some i → (pickAI ops P)[k]? = ops[i]? := by
      intro P
      induction P with
      | nil => intro k i _ h; simp at h
      | cons p P ihP =>
        intro k i hlt h
        have hp := hlt p List.mem_cons_self
        have : pickAI ops (p :: P) = ops[p] :: pickAI ops P := by
          unfold pickAI
          rw [List.filterMap_cons, List.getElem?_eq_getElem hp]
        rw [this]
        cases k with
        | zero => simp at h; subst h; simp
        | succ k => simp at h ⊢; exact ihP k i (fun j hj => hlt j (List.mem_cons_of_mem _ hj)) h
    have hk := key P (inv P i) i hP hi
    rw [ho] at hk
    unfold pickAI at ih ⊢
    rw [List.map_cons, List.filterMap_cons, List.filterMap_cons, hk, ih]
theorem dr_leaf (P : List Nat) (deps' : List (List Nat)) (ops' : List AI) (ho : pickAI ops P = ops') (hlen : ops'.length = ops.length) (hp : permB deps deps' X ops.length P = true) (hst : statP deps' ops' = true) {e2 : Env} (h : TG T pr deps' ops'.length 0 ops' e σ [] [] e2 σ1) (he : ∀ m, e2.get m = e1.get m) : DR T pr deps X ops e σ e1 σ1 := by
  intro L hL hX
  unfold permB at hp
  simp only [Bool.and_eq_true, beq_iff_eq, List.all_eq_true, List.mem_range, decide_eq_true_eq, Bool.or_eq_true, List.any_eq_true] at hp
  obtain ⟨hp1, hp2⟩ := hp
  have hinj : ∀ i j, i < ops.length → j < ops.length → inv P i = inv P j → i = j := fun i j hi hj h => by
    have a := (hp2 i hi).1.1
    have b := (hp2 j hj).1.1
    rw [h, b] at a
    exact (Option.some.inj a).symm
  have main : ∀ L acc, LXt deps ops.length acc L → (∀ i ∈ acc, i < ops.length) → (∀ p ∈ X, Bef (acc.reverse ++ L) p.1 p.2) → LXt deps' ops.length (acc.map (inv P)) (L.map (inv P)) ∧ ∀ i ∈ L, i < ops.length := by
    intro L
    induction L with
    | nil =>
      intro acc hl _ _
      cases hl with
      | nil hl => exact ⟨.nil (by simpa using hl), by simp⟩
    | cons i L ih =>
      intro acc hl hlt hB
      cases hl with
      | cons hi hia hd hl =>
        have hlt' : ∀ j ∈ i :: acc, j < ops.length := fun j hj => by
          rcases List.mem_cons.1 hj with rfl | hj
          · exact hi
          · exact hlt j hj
        obtain ⟨g1, g2⟩ := ih (i :: acc) hl hlt' (by simpa using hB)
        refine ⟨.cons (hp2 i hi).1.2 (fun hm => ?_) (fun d' hd' => ?_) (by simpa using g1), fun j hj => by
          rcases List.mem_cons.1 hj with rfl | hj
          · exact hi
          · exact g2 j hj⟩
        · obtain ⟨j, hj, hji⟩ := List.mem_map.1 hm
          have := hinj j i (hlt j hj) hi hji
          subst this
          exact hia hj
        · rcases (hp2 i hi).2 d' hd' with ⟨d, h1, h2⟩ | ⟨p, h1, h2, h3⟩
          · exact List.mem_map.2 ⟨d, hd d h1, h2⟩
          · have := hB p h1 acc.reverse L (by rw [h2])
            exact List.mem_map.2 ⟨p.1, by simpa using this, h3⟩
  obtain ⟨g1, g2⟩ := main L [] hL (fun i hi => by cases hi) (by simpa using hX)
  rw [← hlen] at g1
  obtain ⟨E', h1, h2⟩ := draw3_ok hst h g1
  refine ⟨E', ?_, fun m => (h2 m).trans (he m)⟩
  have hPlt : ∀ i ∈ P, i < ops.length := by
    -- every number below n is in P, and P is as long
    have hsub : ∀ i, i < ops.length → i ∈ P := fun i hi => List.mem_of_getElem? (hp2 i hi).1.1
    intro i hi
    rcases Nat.lt_or_ge i ops.length with h | h
    · exact h
    · exfalso
      have h1 := len_of_all ops.length (P.erase i) (fun j hj => (List.mem_erase_of_ne (by omega)).2 (hsub j hj))
      rw [List.length_erase, if_pos hi, hp1] at h1
      have := List.length_pos_of_mem hi
      omega
  rw [pick_inv ho (by rw [hlen, hp1]) hPlt L (fun i hi => (hp2 i (g2 i hi)).1.1)] at h1
  exact h1
theorem w_drwX {kill : List Nat} {k : List It} {Q : Env → St → Prop} (hst : ((deps.length == ops.length) && (List.range ops.length).all fun j => (deps.getD j []).all fun d => decide (d < j)) = true) (h : ∃ e1 σ1, DR T pr deps [] ops e σ e1 σ1 ∧ W T pr k (e1.del kill) σ1 Q) : W T pr (.c (.drw kill deps ops) :: k) e σ Q := by
  obtain ⟨e1, σ1, hd, e', σ', h2, q⟩ := h
  simp only [Bool.and_eq_true, beq_iff_eq, List.all_eq_true, List.mem_range, decide_eq_true_eq] at hst
  have key : ∀ t, ∃ E', Ev T pr (.ops (pickAI ops (lin deps t)) e σ E' σ1) ∧ ∀ m, E'.get m = e1.get m := fun t => by
    refine hd _ ?_ (fun p hp => by cases hp)
    unfold lin
    rw [linGo_eq]
    exact lin_lx hst.1 (fun j hj d hd => hst.2 j hj d hd) deps.length t [] (by simp [hst.1]) List.nodup_nil (fun i hi => by cases hi)
  exact ⟨e', σ', .cDrw (fun t => (key t).choose) (fun t => (key t).choose_spec.1) (fun t => (key t).choose_spec.2) h2, q⟩
end
/-! environments by their slots -/
def insE' (k : Nat) (v : V) : Env → Env
  | [] => [(k, v)]
  | (m, u) :: r => if k < m then (k, v) :: (m, u) :: r else if k = m then (k, v) :: r else (m, u) :: insE' k v r
def sortE : Env → Env
  | [] => []
  | (k, v) :: r => insE' k v (sortE r)
theorem insE_get (k : Nat) (v : V) (n : Nat) : ∀ l : Env, (insE' k v l).get n = if k = n then v else l.get n
  | [] => by simp [insE', Env.get]
  | (m, u) :: r => by
    have ih := insE_get k v n r
    unfold insE'
    split
    · simp [Env.get]
    · split
      · rename_i h; subst h
        simp only [Env.get]
        split <;> rfl
      · simp only [Env.get, ih]
        split
        · rename_i h1 h2 h3
          subst h3
          rw [if_neg h2]
        · rfl
theorem sortE_get (n : Nat) : ∀ e : Env, (sortE e).get n = e.get n
  | [] => rfl
  | (k, v) :: r => by
    rw [sortE, insE_get, sortE_get n r]
    rfl
theorem get_same {e e' : Env} (h : sortE e = sortE e') (n : Nat) : e.get n = e'.get n := by rw [← sortE_get n e, h, sortE_get]
/-- where a walk ends -/
def DE (E : Env) (S : St) (e : Env) (σ : St) : Prop := e = E ∧ σ = S
def DS (E : Env) (S : St) (e : Env) (σ : St) : Prop := sortE e = sortE E ∧ σ = S
theorem de_ok {E : Env} {S : St} : DE E S E S := ⟨rfl, rfl⟩
theorem ds_ok {E e : Env} {S σ : St} (h : sortE e = sortE E) (h' : σ = S) : DS E S e σ := ⟨h, h'⟩
/-- two effects a, b (a before b in the text) that no order binds -/
theorem w_drw2 {deps : List (List Nat)} {ops : List AI} {kill : List Nat} {k : List It} {e : Env} {σ : St} {Q : Env → St → Prop} (a b : Nat) (P1 P2 : List Nat) (d1 d2 : List (List Nat)) {E : Env} {S : St}
    (hp : ((deps.length == ops.length) && ((List.range ops.length).all fun j => (deps.getD j []).all fun d => decide (d < j)) && (a == b) == false && permB deps d1 [(a, b)] ops.length P1 && permB deps d2 [(b, a)] ops.length P2 && statP d1 (pickAI ops P1) && statP d2 (pickAI ops P2) && (pickAI ops P1).length == ops.length && (pickAI ops P2).length == ops.length) = true)
    (h1 : wg T pr d1 (pickAI ops P1).length [] [] (DE E S) 0 (pickAI ops P1) e σ [] [])
    (h2 : wg T pr d2 (pickAI ops P2).length [] [] (DS E S) 0 (pickAI ops P2) e σ [] [])
    (h : WE T pr (E.del kill) k S Q) : W T pr (.c (.drw kill deps ops) :: k) e σ Q := by
  simp only [Bool.and_eq_true, beq_iff_eq] at hp
  obtain ⟨⟨⟨⟨⟨⟨⟨⟨hs1, hs2⟩, hab⟩, p1⟩, p2⟩, s1⟩, s2⟩, l1⟩, l2⟩ := hp
  have fin : ∀ {e1 : Env} {σ1 : St} {P : Env → St → Prop}, W T pr [] (e1.del []) σ1 P → P e1 σ1 := fun {e1 σ1 P} h => by
    have hd : ∀ e : Env, e.del [] = e := fun e => by
      induction e with
      | nil => rfl
      | cons p r ih => obtain ⟨m, v⟩ := p; simp only [Env.del, List.elem_nil, Bool.false_eq_true, if_false, ih]
    rw [hd, w_nil] at h
    exact h
  obtain ⟨e1, σ1, t1, g1⟩ := wg_ok _ _ _ _ _ _ h1
  obtain ⟨rfl, rfl⟩ := fin g1
  obtain ⟨e2, σ2, t2, g3⟩ := wg_ok _ _ _ _ _ _ h2
  obtain ⟨g4, rfl⟩ := fin g3
  refine w_drwX ?_ ⟨_, _, dr_split a b (by simpa using hab) (dr_leaf P1 d1 _ rfl l1 p1 s1 t1 fun _ => rfl) (dr_leaf P2 d2 _ rfl l2 p2 s2 t2 (get_same g4)), h⟩
  simp only [Bool.and_eq_true, beq_iff_eq]
  exact ⟨hs1, hs2⟩
end Go.Proofs.YtlehfgdhebapeaaDoor.KM
