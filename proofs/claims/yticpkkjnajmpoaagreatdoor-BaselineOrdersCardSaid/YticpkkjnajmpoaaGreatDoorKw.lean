/- Regions that draw their order and whose reads and writes are ordered by their edges: walked as if in text order. -/
import Derived.Test.YticpkkjnajmpoaaGreatDoorKv
set_option linter.all false
namespace Go.Proofs.YticpkkjnajmpoaaGreatDoor.KM
open Go
variable {T : Nat → Option AF} {pr : Nat → Option (List V → Option V)}

def rwB (T : Nat → Option AF) (pr : Nat → Option (List V → Option V)) (x y : AI) : Bool := !((cls T pr x.op == 1 && cls T pr y.op == 2) || (cls T pr x.op == 2 && cls T pr y.op == 1))
def statB (T : Nat → Option AF) (pr : Nat → Option (List V → Option V)) (deps : List (List Nat)) (ops : List AI) : Bool :=
  staticB T pr deps ops && (List.range ops.length).all fun j => (List.range j).all fun i => befB deps ops.length j i || (match ops[i]?, ops[j]? with
    | some x, some y => rwB T pr x y
    | _, _ => false)

theorem chkL_all {deps : List (List Nat)} {n k m : Nat} {one : Bool} {p : V} : ∀ {fs : List (Nat × St × St)}, (∀ j s s1, (j, s, s1) ∈ fs → befB deps n k j = true) → chkL deps n k m one p fs
  | [], _ => trivial
  | (j, s, s1) :: r, h => ⟨.inl (h j s s1 List.mem_cons_self), chkL_all fun j s s1 hm => h j s s1 (List.mem_cons_of_mem _ hm)⟩
theorem chkE_all {deps : List (List Nat)} {n k : Nat} {σ σ1 : St} : ∀ {ls : List (Nat × Nat × Bool × V)}, (∀ i m one p, (i, m, one, p) ∈ ls → befB deps n k i = true) → chkE deps n k σ σ1 ls
  | [], _ => trivial
  | (i, m, one, p) :: r, h => ⟨.inl (h i m one p List.mem_cons_self), chkE_all fun i m one p hm => h i m one p (List.mem_cons_of_mem _ hm)⟩

theorem cls_three (op : AO) : cls T pr op = 0 ∨ cls T pr op = 2 ∨ ∃ m one x, op = .load m one x := by
  cases op
  case load m one x => exact .inr (.inr ⟨m, one, x, rfl⟩)
  case call f xs =>
    simp only [cls]
    split
    · exact .inl rfl
    · split
      · split
        · exact .inr (.inl rfl)
        · exact .inl rfl
      · exact .inr (.inl rfl)
  all_goals first | exact .inl rfl | exact .inr (.inl rfl)

theorem TE_of {deps : List (List Nat)} {ops : List AI} (hst : statB T pr deps ops = true) : ∀ (l : List AI) (k : Nat) (e : Env) (σ : St) (e' : Env) (σ' : St) (fs : List (Nat × St × St)) (ls : List (Nat × Nat × Bool × V)), l = ops.drop k →
    (∀ j s s1, (j, s, s1) ∈ fs → j < k ∧ ∃ i, ops[j]? = some i ∧ cls T pr i.op = 2) → (∀ j m one p, (j, m, one, p) ∈ ls → j < k ∧ ∃ i, ops[j]? = some i ∧ cls T pr i.op = 1) →
    SO T pr l e σ e' σ' → TE T pr deps ops.length k l e σ fs ls e' σ' := by
  unfold statB at hst
  simp only [Bool.and_eq_true, List.all_eq_true, List.mem_range] at hst
  obtain ⟨_, hrw⟩ := hst
  intro l
  induction l with
  | nil =>
    intro k e σ e' σ' fs ls _ _ _ h
    cases h
    exact .nil
  | cons i l ih =>
    intro k e σ e' σ' fs ls hl hfs hls h
    have hk : ops[k]? = some i := by
      have : (ops.drop k)[0]? = some i := by rw [← hl]; rfl
      simpa using this
    have hklt : k < ops.length := (List.getElem?_eq_some_iff.1 hk).1
    have hl' : l = ops.drop (k + 1) := by
      have := congrArg List.tail hl
      simpa using this
    have hbef : ∀ j i', j < k → ops[j]? = some i' → rwB T pr i' i = false → befB deps ops.length k j = true := fun j i' hj hi' hr => by
      have := hrw k hklt j hj
      simp only [Bool.or_eq_true, hi', hk, hr] at this
      rcases this with h | h
      · exact h
      · cases h
    cases h with
    | @cons _ _ _ _ _ σ1 _ v hs h' =>
    have lift : ∀ {k' : Nat}, k' = k + 1 → ∀ {j : Nat}, j < k → j < k' := fun h1 _ h2 => by omega
    rcases cls_three (T := T) (pr := pr) i.op with h0 | h2 | ⟨m, one, x, hx⟩
    · have hσ : σ1 = σ := by
        cases hs with
        | off => rfl
        | val hw hv => exact (evalOp_calm h0 hv).1
        | prim => rfl
        | pure => rfl
        | thr hw hT ht hsp hp hE => simp [cls, hp, hT, ht] at h0
        | spec hw hT ht hsp hp hE => simp [cls, hp, hT, ht] at h0
        | vprim => simp [cls] at h0
        | vpure => simp [cls] at h0
        | vthr => simp [cls] at h0
      subst hσ
      exact .calm h0 hs (ih (k + 1) _ _ _ _ _ _ hl' (fun j s s1 hm => ⟨by have := (hfs j s s1 hm).1; omega, (hfs j s s1 hm).2⟩) (fun j m one p hm => ⟨by have := (hls j m one p hm).1; omega, (hls j m one p hm).2⟩) h')
    · refine .eff h2 hs (chkE_all fun j m one p hm => ?_) (ih (k + 1) _ _ _ _ _ _ hl' (fun j s s1 hm => ?_) (fun j m one p hm => ⟨by have := (hls j m one p hm).1; omega, (hls j m one p hm).2⟩) h')
      · obtain ⟨hj, i', hi', hc⟩ := hls j m one p hm
        exact hbef j i' hj hi' (by simp [rwB, hc, h2])
      · rcases List.mem_cons.1 hm with hm | hm
        · cases hm; exact ⟨by omega, i, hk, h2⟩
        · exact ⟨by have := (hfs j s s1 hm).1; omega, (hfs j s s1 hm).2⟩
    · obtain ⟨d, op, g⟩ := i
      simp only at hx
      subst hx
      have hσ : σ1 = σ := by
        cases hs with
        | off => rfl
        | val hw hv =>
          simp only [evalOp, Option.map_eq_some_iff] at hv
          obtain ⟨_, _, hv⟩ := hv
          cases hv; rfl
      subst hσ
      refine .load hs (chkL_all fun j s s1 hm => ?_) (ih (k + 1) _ _ _ _ _ _ hl' (fun j s s1 hm => ⟨by have := (hfs j s s1 hm).1; omega, (hfs j s s1 hm).2⟩) (fun j m' one' p hm => ?_) h')
      · obtain ⟨hj, i', hi', hc⟩ := hfs j s s1 hm
        have hl1 : cls T pr (.load m one x) = 1 := rfl
        exact hbef j i' hj hi' (by simp [rwB, hc, hl1])
      · rcases List.mem_cons.1 hm with hm | hm
        · cases hm; exact ⟨by omega, _, hk, rfl⟩
        · exact ⟨by have := (hls j m' one' p hm).1; omega, (hls j m' one' p hm).2⟩

def WS (T : Nat → Option AF) (pr : Nat → Option (List V → Option V)) (l : List AI) (e : Env) (σ : St) (Q : Env → St → Prop) : Prop := ∃ e' σ', SO T pr l e σ e' σ' ∧ Q e' σ'
/-- a drawn region, walked in text order -/
theorem W_drwS {Q : Env → St → Prop} {e : Env} {σ : St} {k : List It} {kill : List Nat} {deps : List (List Nat)} {ops : List AI} (hst : statB T pr deps ops = true) (h : ∀ K : Env → St → Prop, (∀ e1 σ1, W T pr k (e1.del kill) σ1 Q → K e1 σ1) → WS T pr ops e σ K) : W T pr (.c (.drw kill deps ops) :: k) e σ Q := by
  obtain ⟨e1, σ1, hE, e', σ', hW, hq⟩ := h _ fun _ _ h => h
  obtain ⟨E2, h1, h2⟩ := draw_ok (by unfold statB at hst; simp only [Bool.and_eq_true] at hst; exact hst.1) (TE_of hst ops 0 e σ e1 σ1 [] [] rfl (fun _ _ _ h => by cases h) (fun _ _ _ _ h => by cases h) hE)
  exact ⟨e', σ', .cDrw E2 h1 h2 hW, hq⟩
section
variable {Q : Env → St → Prop} {e : Env} {σ : St}
theorem WS_nil (q : Q e σ) : WS T pr [] e σ Q := ⟨e, σ, .nil, q⟩
theorem WS_stp {i : AI} {l : List AI} {v : V} {σ1 : St} (hs : Stp T pr i e σ v σ1) (h : WS T pr l (e.putO i.dst v) σ1 Q) : WS T pr (i :: l) e σ Q :=
  let ⟨e', σ', h, q⟩ := h
  ⟨e', σ', .cons hs h, q⟩
theorem WS_val {d : Option Nat} {op : AO} {l : List AI} {v : V} {σ1 : St} (hv : evalOp op e σ = some (v, σ1)) (h : WS T pr l (e.putO d v) σ1 Q) : WS T pr (⟨d, op, none⟩ :: l) e σ Q := WS_stp (.val rfl hv) h
theorem WS_valg {d : Option Nat} {op : AO} {g : Nat × Bool} {l : List AI} {v : V} {σ1 : St} (hg : wantedB e ⟨d, op, some g⟩ = some true) (hv : evalOp op e σ = some (v, σ1)) (h : WS T pr l (e.putO d v) σ1 Q) : WS T pr (⟨d, op, some g⟩ :: l) e σ Q := WS_stp (.val hg hv) h
theorem WS_off {d : Option Nat} {op : AO} {g : Nat × Bool} {l : List AI} (hg : wantedB e ⟨d, op, some g⟩ = some false) (h : WS T pr l (e.putO d .skp) σ Q) : WS T pr (⟨d, op, some g⟩ :: l) e σ Q := WS_stp (.off hg) h
theorem WS_pure {d : Option Nat} {g : Option (Nat × Bool)} {f : Nat} {xs : List S} {l : List AI} {vs : List V} {v : V} (hg : wantedB e ⟨d, .call f xs, g⟩ = some true) (hn : refsL (xs.map (src e)) = []) (hx : over [] (xs.map (src e)) = some vs) (hf : Fn T pr f vs v) (h : WS T pr l (e.putO d v) σ Q) : WS T pr (⟨d, .call f xs, g⟩ :: l) e σ Q := WS_stp (.pure hg hn hx hf) h
theorem WS_prim {d : Option Nat} {g : Option (Nat × Bool)} {f : Nat} {xs : List S} {l : List AI} {s : List V → Option V} {vs : List V} {v : V} (hg : wantedB e ⟨d, .call f xs, g⟩ = some true) (hp : pr f = some s) (hn : refsL (xs.map (src e)) = []) (hx : over [] (xs.map (src e)) = some vs) (hs : s vs = some v) (h : WS T pr l (e.putO d v) σ Q) : WS T pr (⟨d, .call f xs, g⟩ :: l) e σ Q := WS_stp (.prim hg hp hn hx hs) h
theorem WS_thr {d : Option Nat} {g : Option (Nat × Bool)} {f : Nat} {xs : List S} {l : List AI} {v : V} {σ1 : St} (hg : wantedB e ⟨d, .call f xs, g⟩ = some true) (hp : pr f = none) (hf : Th T pr f (xs.map (src e)) σ v σ1) (h : WS T pr l (e.putO d v) σ1 Q) : WS T pr (⟨d, .call f xs, g⟩ :: l) e σ Q :=
  let ⟨_, hT, ht, hsp, hE⟩ := hf
  WS_stp (.thr hg hT ht hsp hp hE) h
end
end Go.Proofs.YticpkkjnajmpoaaGreatDoor.KM
