/- Regions that draw their order, in general: reads float as long as what they read stays, effects keep their order. -/
import Derived.Test.YticpkkjnajmpoaaGreatDoorKw
set_option linter.all false
namespace Go.Proofs.YticpkkjnajmpoaaGreatDoor.KM
open Go
variable {T : Nat → Option AF} {pr : Nat → Option (List V → Option V)}

/-- one step -/
inductive Sg (T : Nat → Option AF) (pr : Nat → Option (List V → Option V)) : AI → Env → St → V → St → Prop
  | off {i : AI} {e : Env} {σ : St} : wantedB e i = some false → Sg T pr i e σ .skp σ
  | val {i : AI} {e : Env} {σ σ1 : St} {v : V} : wantedB e i = some true → evalOp i.op e σ = some (v, σ1) → Sg T pr i e σ v σ1
  | prim {i : AI} {f : Nat} {args : List V} {e : Env} {σ : St} {s : List V → Option V} {vs : List V} {v : V} : wantedB e i = some true → calleeOf e i.op = some (f, args) → pr f = some s →
      over σ args = some vs → s vs = some v → Sg T pr i e σ v (after σ args v)
  | pure {i : AI} {f : Nat} {args : List V} {e : Env} {σ : St} {vs : List V} {v : V} : wantedB e i = some true → calleeOf e i.op = some (f, args) →
      over σ args = some vs → Fn T pr f vs v → Sg T pr i e σ v (after σ args v)
  | thr {i : AI} {f : Nat} {args : List V} {e : Env} {σ σ1 : St} {F : AF} {v : V} : wantedB e i = some true → calleeOf e i.op = some (f, args) → T f = some F → F.thr = true → F.spec = none →
      Ev T pr (.fn f args σ v σ1) → Sg T pr i e σ v σ1
  | spec {i : AI} {f : Nat} {args : List V} {e : Env} {σ σ1 : St} {F : AF} {s : List V → St → Option (V × St)} {v : V} : wantedB e i = some true → calleeOf e i.op = some (f, args) → T f = some F → F.thr = true → F.spec = some s →
      s args σ = some (v, σ1) → Sg T pr i e σ v σ1
theorem Sg.ev {i : AI} {l : List AI} {e e' : Env} {σ σ1 σ' : St} {v : V} (h : Sg T pr i e σ v σ1) (g : Ev T pr (.ops l (e.putO i.dst v) σ1 e' σ')) : Ev T pr (.ops (i :: l) e σ e' σ') := by
  cases h with
  | off h => exact .opsSkip h g
  | val h hv => exact .opsVal h hv g
  | prim h hc hp hx hs => exact .opsPrim h hc hp hx hs g
  | pure h hc hx hf =>
    obtain ⟨F, h1, h2, h3, v0, σ0, h4, h5⟩ := hf
    exact .opsPure h hc h1 h2 h3 hx h4 h5 g
  | thr h hc h1 h2 h3 h4 => exact .opsThr h hc h1 h2 h3 h4 g
  | spec h hc h1 h2 h3 h4 => exact .opsSpec h hc h1 h2 h3 h4 g
theorem callee_eq {e e' : Env} {op : AO} (h : Agree e e' op.rd) : calleeOf e op = calleeOf e' op := by
  cases op with
  | call f xs => simp only [calleeOf]; rw [map_src_eq h]
  | callv x xs => exact callee_agree h
  | _ => rfl
theorem Sg.move {i : AI} {e e' : Env} {σ σ1 : St} {v : V} (h : Sg T pr i e σ v σ1) (ha : Agree e e' i.rd) : Sg T pr i e' σ v σ1 := by
  have hw := wanted_agree ha
  have hc' := callee_eq (op := i.op) ha.l
  cases h with
  | off h => exact .off (hw ▸ h)
  | val h hv => exact .val (hw ▸ h) (evalOp_eq (op := i.op) ha.l σ ▸ hv)
  | prim h hc hp hx hs => exact .prim (hw ▸ h) (hc' ▸ hc) hp hx hs
  | pure h hc hx hf => exact .pure (hw ▸ h) (hc' ▸ hc) hx hf
  | thr h hc h1 h2 h3 h4 => exact .thr (hw ▸ h) (hc' ▸ hc) h1 h2 h3 h4
  | spec h hc h1 h2 h3 h4 => exact .spec (hw ▸ h) (hc' ▸ hc) h1 h2 h3 h4

def pairP (x y : AI) : Bool :=
  (match x.dst with
    | some d => !y.rd.elem d && !(y.dst == some d)
    | none => true) && (match y.dst with
    | some d => !x.rd.elem d
    | none => true)
def statP (deps : List (List Nat)) (ops : List AI) : Bool :=
  deps.length == ops.length && (List.range ops.length).all fun j => ((deps.getD j []).all fun d => decide (d < j)) && (List.range j).all fun i => befB deps ops.length j i || (match ops[i]?, ops[j]? with
    | some x, some y => pairP x y
    | _, _ => false)

/-- the walk in the order of the text; fs: the effects that have been, ls: what the reads ask of the state -/
inductive TG (T : Nat → Option AF) (pr : Nat → Option (List V → Option V)) (deps : List (List Nat)) (n : Nat) : Nat → List AI → Env → St → List (Nat × St × St) → List (Nat × (St → Prop)) → Env → St → Prop
  | nil {k : Nat} {e : Env} {σ : St} {fs : List (Nat × St × St)} {ls : List (Nat × (St → Prop))} : TG T pr deps n k [] e σ fs ls e σ
  | read {k : Nat} {i : AI} {l : List AI} {e e' : Env} {σ σ' : St} {v : V} {fs : List (Nat × St × St)} {ls : List (Nat × (St → Prop))} (R : St → Prop) : R σ → (∀ s, R s → Sg T pr i e s v s) → (∀ j s s1, (j, s, s1) ∈ fs → befB deps n k j = true ∨ (R s1 ↔ R s)) →
      TG T pr deps n (k + 1) l (e.putO i.dst v) σ fs ((k, R) :: ls) e' σ' → TG T pr deps n k (i :: l) e σ fs ls e' σ'
  | eff {k : Nat} {i : AI} {l : List AI} {e e' : Env} {σ σ1 σ' : St} {v : V} {fs : List (Nat × St × St)} {ls : List (Nat × (St → Prop))} : Sg T pr i e σ v σ1 → (∀ j s s1, (j, s, s1) ∈ fs → befB deps n k j = true) → (∀ j R, (j, R) ∈ ls → befB deps n k j = true ∨ (R σ1 ↔ R σ)) →
      TG T pr deps n (k + 1) l (e.putO i.dst v) σ1 ((k, σ, σ1) :: fs) ls e' σ' → TG T pr deps n k (i :: l) e σ fs ls e' σ'

def KindOk (T : Nat → Option AF) (pr : Nat → Option (List V → Option V)) (i : AI) (e : Env) (s s1 : St) (v : V) : Option (St → Prop) → Prop
  | some R => s1 = s ∧ R s ∧ ∀ s', R s' → Sg T pr i e s' v s'
  | none => Sg T pr i e s v s1
/-- the walk as sequences -/
structure Sr (T : Nat → Option AF) (pr : Nat → Option (List V → Option V)) (deps : List (List Nat)) (n k : Nat) (l : List AI) (e : Env) (σ : St) (fs : List (Nat × St × St)) (ls : List (Nat × (St → Prop))) (e' : Env) (σ' : St) (env : Nat → Env) (st : Nat → St) (val : Nat → V) (ro : Nat → Option (St → Prop)) : Prop where
  e0 : env k = e
  s0 : st k = σ
  e1 : env (k + l.length) = e'
  s1 : st (k + l.length) = σ'
  stp : ∀ j i, l[j]? = some i → env (k + j + 1) = (env (k + j)).putO i.dst (val (k + j)) ∧ KindOk T pr i (env (k + j)) (st (k + j)) (st (k + j + 1)) (val (k + j)) (ro (k + j))
  d0 : ∀ a b, a < b → b < l.length → ro (k + a) = none → ro (k + b) = none → befB deps n (k + b) (k + a) = true
  d4 : ∀ b j s s1, b < l.length → ro (k + b) = none → (j, s, s1) ∈ fs → befB deps n (k + b) j = true
  d1 : ∀ a b R, a < l.length → b < l.length → ro (k + a) = some R → ro (k + b) = none → befB deps n (k + a) (k + b) = true ∨ befB deps n (k + b) (k + a) = true ∨ (R (st (k + b + 1)) ↔ R (st (k + b)))
  d2 : ∀ a R j s s1, a < l.length → ro (k + a) = some R → (j, s, s1) ∈ fs → befB deps n (k + a) j = true ∨ (R s1 ↔ R s)
  d3 : ∀ b j R, b < l.length → ro (k + b) = none → (j, R) ∈ ls → befB deps n (k + b) j = true ∨ (R (st (k + b + 1)) ↔ R (st (k + b)))

/-- one more in front -/
def cns {α : Type} (k : Nat) (x : α) (f : Nat → α) : Nat → α := fun m => if m = k then x else f m
theorem cns_0 {α : Type} {k : Nat} {x : α} {f : Nat → α} : cns k x f (k + 0) = x := if_pos rfl
theorem cns_k {α : Type} {k : Nat} {x : α} {f : Nat → α} : cns k x f k = x := if_pos rfl
theorem cns_s {α : Type} {k j : Nat} {x : α} {f : Nat → α} : cns k x f (k + (j + 1)) = f (k + 1 + j) := by
  unfold cns
  rw [if_neg (by omega), show k + (j + 1) = k + 1 + j by omega]
theorem cns_s1 {α : Type} {k j : Nat} {x : α} {f : Nat → α} : cns k x f (k + (j + 1) + 1) = f (k + 1 + j + 1) := by
  unfold cns
  rw [if_neg (by omega), show k + (j + 1) = k + 1 + j by omega]
theorem cns_1 {α : Type} {k : Nat} {x : α} {f : Nat → α} : cns k x f (k + 0 + 1) = f (k + 1) := by
  unfold cns
  rw [if_neg (by omega)]
theorem add_s (k j : Nat) : k + (j + 1) = k + 1 + j := by omega

theorem TG.sr {deps : List (List Nat)} {n k : Nat} {l : List AI} {e e' : Env} {σ σ' : St} {fs : List (Nat × St × St)} {ls : List (Nat × (St → Prop))} (h : TG T pr deps n k l e σ fs ls e' σ') : ∃ env st val ro, Sr T pr deps n k l e σ fs ls e' σ' env st val ro := by
  induction h with
  | @nil k e σ fs ls =>
    exact ⟨fun _ => e, fun _ => σ, fun _ => .und, fun _ => none, ⟨rfl, rfl, rfl, rfl, fun j i h => by simp at h, fun a b _ h => by simp at h, fun b j s s1 h => by simp at h, fun a b R h => by simp at h, fun a R j s s1 h => by simp at h, fun b j R h => by simp at h⟩⟩
  | @read k i l e e' σ σ' v fs ls R hR hs hchk _ ih =>
    obtain ⟨env, st, val, ro, q⟩ := ih
    refine ⟨cns k e env, cns k σ st, cns k v val, cns k (some R) ro, ⟨cns_k, cns_k, ?_, ?_, fun j x hx => ?_, fun a b hab hb h1 h2 => ?_, fun b j s s1 hb h1 hin => ?_, fun a b R' ha hb h1 h2 => ?_, fun a R' j s s1 ha h1 hin => ?_, fun b j R' hb h1 hin => ?_⟩⟩
    · rw [List.length_cons, cns_s]; exact q.e1
    · rw [List.length_cons, cns_s]; exact q.s1
    · cases j with
      | zero =>
        simp at hx
        subst hx
        rw [cns_0, cns_0, cns_0, cns_0, cns_1, cns_1, q.e0, q.s0]
        exact ⟨rfl, rfl, hR, hs⟩
      | succ j =>
        rw [cns_s, cns_s, cns_s, cns_s, cns_s1, cns_s1]
        exact q.stp j x (by simpa using hx)
    · cases a with
      | zero => rw [cns_0] at h1; cases h1
      | succ a =>
        cases b with
        | zero => omega
        | succ b =>
          rw [cns_s] at h1 h2
          rw [add_s k a, add_s k b]
          exact q.d0 a b (by omega) (by simpa using hb) h1 h2
    · cases b with
      | zero => rw [cns_0] at h1; cases h1
      | succ b =>
        rw [cns_s] at h1
        rw [add_s]
        exact q.d4 b j s s1 (by simpa using hb) h1 hin
    · cases b with
      | zero => rw [cns_0] at h2; cases h2
      | succ b =>
        rw [cns_s] at h2
        cases a with
        | zero =>
          rw [cns_0] at h1
          cases h1
          have := q.d3 b k R (by simpa using hb) h2 (by simp)
          rw [cns_s1, cns_s, add_s, Nat.add_zero]
          rcases this with h | h
          · exact .inr (.inl h)
          · exact .inr (.inr h)
        | succ a =>
          rw [cns_s] at h1
          rw [cns_s1, cns_s, add_s k a, add_s k b]
          exact q.d1 a b R' (by simpa using ha) (by simpa using hb) h1 h2
    · cases a with
      | zero =>
        rw [cns_0] at h1
        cases h1
        exact hchk j s s1 hin
      | succ a =>
        rw [cns_s] at h1
        rw [add_s]
        exact q.d2 a R' j s s1 (by simpa using ha) h1 hin
    · cases b with
      | zero => rw [cns_0] at h1; cases h1
      | succ b =>
        rw [cns_s] at h1
        rw [cns_s1, cns_s, add_s]
        exact q.d3 b j R' (by simpa using hb) h1 (List.mem_cons_of_mem _ hin)
  | @eff k i l e e' σ σ1 σ' v fs ls hs hbef hchk _ ih =>
    obtain ⟨env, st, val, ro, q⟩ := ih
    refine ⟨cns k e env, cns k σ st, cns k v val, cns k none ro, ⟨cns_k, cns_k, ?_, ?_, fun j x hx => ?_, fun a b hab hb h1 h2 => ?_, fun b j s s1 hb h1 hin => ?_, fun a b R' ha hb h1 h2 => ?_, fun a R' j s s1 ha h1 hin => ?_, fun b j R' hb h1 hin => ?_⟩⟩
    · rw [List.length_cons, cns_s]; exact q.e1
    · rw [List.length_cons, cns_s]; exact q.s1
    · cases j with
      | zero =>
        simp at hx
        subst hx
        rw [cns_0, cns_0, cns_0, cns_0, cns_1, cns_1, q.e0, q.s0]
        exact ⟨rfl, hs⟩
      | succ j =>
        rw [cns_s, cns_s, cns_s, cns_s, cns_s1, cns_s1]
        exact q.stp j x (by simpa using hx)
    · cases b with
      | zero => omega
      | succ b =>
        rw [cns_s] at h2
        cases a with
        | zero =>
          rw [add_s, Nat.add_zero]
          exact q.d4 b k σ σ1 (by simpa using hb) h2 (by simp)
        | succ a =>
          rw [cns_s] at h1
          rw [add_s k a, add_s k b]
          exact q.d0 a b (by omega) (by simpa using hb) h1 h2
    · cases b with
      | zero => exact hbef j s s1 hin
      | succ b =>
        rw [cns_s] at h1
        rw [add_s]
        exact q.d4 b j s s1 (by simpa using hb) h1 (List.mem_cons_of_mem _ hin)
    · cases a with
      | zero => rw [cns_0] at h1; cases h1
      | succ a =>
        rw [cns_s] at h1
        cases b with
        | zero =>
          have := q.d2 a R' k σ σ1 (by simpa using ha) h1 (by simp)
          rw [cns_1, cns_0, q.s0, add_s, Nat.add_zero]
          rcases this with h | h
          · exact .inl h
          · exact .inr (.inr h)
        | succ b =>
          rw [cns_s] at h2
          rw [cns_s1, cns_s, add_s k a, add_s k b]
          exact q.d1 a b R' (by simpa using ha) (by simpa using hb) h1 h2
    · cases a with
      | zero => rw [cns_0] at h1; cases h1
      | succ a =>
        rw [cns_s] at h1
        rw [add_s]
        exact q.d2 a R' j s s1 (by simpa using ha) h1 (List.mem_cons_of_mem _ hin)
    · cases b with
      | zero =>
        rw [cns_1, cns_0, q.s0]
        exact hchk j R' hin
      | succ b =>
        rw [cns_s] at h1
        rw [cns_s1, cns_s, add_s]
        exact q.d3 b j R' (by simpa using hb) h1 hin
end Go.Proofs.YticpkkjnajmpoaaGreatDoor.KM
