/- The plain machine as a function, regions with a drawn order in general. Whatever it gives comes of the code in the sense of Ev. -/
import Derived.Test.YticpkkjnajmpoaaGreatDoorOb
import Derived.Test.YticpkkjnajmpoaaGreatDoorKx
set_option linter.all false
namespace Go.Proofs.YticpkkjnajmpoaaGreatDoor.KM
open Go
variable {T : Nat → Option AF} {pr : Nat → Option (List V → Option V)}

mutual
def V.eqv : V → V → Bool
  | .und, .und => true
  | .skp, .skp => true
  | .bool a, .bool b => a == b
  | .int k n, .int k' m => decide (k = k') && decide (n = m)
  | .str a, .str b => decide (a = b)
  | .nili, .nili => true
  | .ifc, .ifc => true
  | .nils, .nils => true
  | .nilp, .nilp => true
  | .nilf, .nilf => true
  | .lst t xs, .lst t' ys => decide (t = t') && eqvLL xs ys
  | .imm r o, .imm r' o' => decide (o = o') && eqvL r r'
  | .ptr i g o, .ptr i' g' o' => decide (i = i') && (decide (g = g') && decide (o = o'))
  | .sl i g o l m w, .sl i' g' o' l' m' w' => decide (i = i') && (decide (g = g') && (decide (o = o') && (decide (l = l') && (decide (m = m') && w == w'))))
  | .fn f a c, .fn f' a' c' => decide (f = f') && (eqvL a a' && eqvL c c')
  | .mp i, .mp i' => decide (i = i')
  | .agg a, .agg b => eqvL a b
  | .tup a, .tup b => eqvL a b
  | _, _ => false
def eqvL : List V → List V → Bool
  | [], [] => true
  | a :: r, b :: s => a.eqv b && eqvL r s
  | _, _ => false
def eqvLL : List (List V) → List (List V) → Bool
  | [], [] => true
  | a :: r, b :: s => eqvL a b && eqvLL r s
  | _, _ => false
end
mutual
theorem eqv_eq : ∀ {a b : V}, a.eqv b = true → a = b
  | .und, b, h => by cases b <;> simp [V.eqv] at h <;> rfl
  | .skp, b, h => by cases b <;> simp [V.eqv] at h <;> rfl
  | .bool _, b, h => by cases b <;> simp [V.eqv] at h; rw [h]
  | .int _ _, b, h => by cases b <;> simp [V.eqv] at h; rw [h.1, h.2]
  | .str _, b, h => by cases b <;> simp [V.eqv] at h; rw [h]
  | .nili, b, h => by cases b <;> simp [V.eqv] at h <;> rfl
  | .ifc, b, h => by cases b <;> simp [V.eqv] at h <;> rfl
  | .nils, b, h => by cases b <;> simp [V.eqv] at h <;> rfl
  | .nilp, b, h => by cases b <;> simp [V.eqv] at h <;> rfl
  | .nilf, b, h => by cases b <;> simp [V.eqv] at h <;> rfl
  | .lst _ _, b, h => by cases b <;> simp [V.eqv] at h; rw [h.1, eqvLL_eq h.2]
  | .imm _ _, b, h => by cases b <;> simp [V.eqv] at h; rw [h.1, eqvL_eq h.2]
  | .ptr _ _ _, b, h => by cases b <;> simp [V.eqv] at h; rw [h.1, h.2.1, h.2.2]
  | .sl _ _ _ _ _ _, b, h => by cases b <;> simp [V.eqv] at h; rw [h.1, h.2.1, h.2.2.1, h.2.2.2.1, h.2.2.2.2.1, h.2.2.2.2.2]
  | .fn _ _ _, b, h => by cases b <;> simp [V.eqv] at h; rw [h.1, eqvL_eq h.2.1, eqvL_eq h.2.2]
  | .mp _, b, h => by cases b <;> simp [V.eqv] at h; rw [h]
  | .agg _, b, h => by cases b <;> simp [V.eqv] at h; rw [eqvL_eq h]
  | .tup _, b, h => by cases b <;> simp [V.eqv] at h; rw [eqvL_eq h]
theorem eqvL_eq : ∀ {a b : List V}, eqvL a b = true → a = b
  | [], b, h => by cases b <;> simp [eqvL] at h; rfl
  | _ :: _, b, h => by cases b <;> simp [eqvL] at h; rw [eqv_eq h.1, eqvL_eq h.2]
theorem eqvLL_eq : ∀ {a b : List (List V)}, eqvLL a b = true → a = b
  | [], b, h => by cases b <;> simp [eqvLL] at h; rfl
  | _ :: _, b, h => by cases b <;> simp [eqvLL] at h; rw [eqvL_eq h.1, eqvLL_eq h.2]
end

/-- i comes ahead of j -/
def befE (deps : List (List Nat)) : Nat → Nat → Nat → Bool
  | 0, _, _ => false
  | f + 1, j, i => (deps.getD j []).any fun d => d == i || (decide (i < d) && befE deps f d i)
theorem befE_bef {deps : List (List Nat)} : ∀ {f j i : Nat}, befE deps f j i = true → befB deps f j i = true
  | 0, _, _, h => by simp [befE] at h
  | f + 1, j, i, h => by
    simp only [befE, befB, List.any_eq_true, Bool.or_eq_true, Bool.and_eq_true] at h ⊢
    obtain ⟨d, hd, h⟩ := h
    exact ⟨d, hd, h.imp id fun h => befE_bef h.2⟩

/-- what a read asks of the state -/
inductive RD where
  | ev (op : AO) (e : Env) (v : V)
  | ov (args vs : List V)
def rdOp : AO → Bool
  | .load _ _ _ | .mlk _ _ _ => true
  | _ => false
theorem rdOp_same {op : AO} (h : rdOp op = true) {e : Env} {σ σ1 : St} {v : V} (hv : evalOp op e σ = some (v, σ1)) : σ1 = σ := by
  cases op with
  | load n one x =>
    simp only [evalOp, Option.map_eq_some_iff] at hv
    obtain ⟨_, _, h⟩ := hv
    cases h; rfl
  | mlk z x k =>
    simp only [evalOp] at hv
    split at hv
    · split at hv
      · cases hv; rfl
      · cases hv
    · cases hv
  | _ => cases h
def RD.R : RD → St → Prop
  | .ev op e v, s => evalOp op e s = some (v, s)
  | .ov args vs, s => over s args = some vs
def sameO : Option (V × St) → Option (V × St) → Bool
  | some a, some b => a.1.eqv b.1
  | _, _ => false
def sameL : Option (List V) → Option (List V) → Bool
  | some a, some b => eqvL a b
  | _, _ => false
def RD.same : RD → St → St → Bool
  | .ev op e _, s, s1 => rdOp op && sameO (evalOp op e s) (evalOp op e s1)
  | .ov args _, s, s1 => sameL (over s args) (over s1 args)
theorem RD.same_ok {r : RD} {s s1 : St} (h : r.same s s1 = true) : r.R s1 ↔ r.R s := by
  cases r with
  | ev op e v =>
    simp only [RD.same, Bool.and_eq_true] at h
    simp only [RD.R]
    obtain ⟨h0, h⟩ := h
    cases h1 : evalOp op e s with
    | none => rw [h1] at h; simp [sameO] at h
    | some a =>
      cases h2 : evalOp op e s1 with
      | none => rw [h1, h2] at h; simp [sameO] at h
      | some b =>
        rw [h1, h2] at h
        have := eqv_eq h
        obtain ⟨a1, a2⟩ := a
        obtain ⟨b1, b2⟩ := b
        obtain rfl := rdOp_same h0 h1
        obtain rfl := rdOp_same h0 h2
        simp only at this
        subst this
        simp
  | ov args vs =>
    simp only [RD.same] at h
    simp only [RD.R]
    cases h1 : over s args with
    | none => rw [h1] at h; simp [sameL] at h
    | some a =>
      cases h2 : over s1 args with
      | none => rw [h1, h2] at h; simp [sameL] at h
      | some b =>
        rw [h1, h2] at h
        rw [eqvL_eq h]

abbrev Efs := List (Nat × St × St)
abbrev Rds := List (Nat × RD)
def okRd (deps : List (List Nat)) (n k : Nat) (fs : Efs) (r : RD) : Bool := fs.all fun p => befE deps n k p.1 || r.same p.2.1 p.2.2
def okEf (deps : List (List Nat)) (n k : Nat) (fs : Efs) (ls : Rds) (σ σ1 : St) : Bool := (fs.all fun p => befE deps n k p.1) && ls.all fun p => befE deps n k p.1 || p.2.same σ σ1
def calmF (T : Nat → Option AF) (pr : Nat → Option (List V → Option V)) (f : Nat) : Bool :=
  match pr f with
  | some _ => true
  | none => match T f with
    | some F => !F.thr
    | none => false
/-- which kind of step: 0: whatever the state, 1: a read, 2: an effect -/
def kindD (T : Nat → Option AF) (pr : Nat → Option (List V → Option V)) (i : AI) (e : Env) (σ : St) (v : V) : Nat × RD :=
  if isCall i.op then (match calleeOf e i.op with
    | some (f, args) => if calmF T pr f then (if (refsL args).isEmpty then (0, .ov args []) else if v.flatV then (1, .ov args ((over σ args).getD [])) else (2, .ov [] [])) else (2, .ov [] [])
    | none => (2, .ov [] []))
  else if cls T pr i.op == 0 then (0, .ov [] []) else if rdOp i.op then (1, .ev i.op e v) else (2, .ov [] [])
def opsD (T : Nat → Option AF) (pr : Nat → Option (List V → Option V)) (rf : Bool → RunF) (deps : List (List Nat)) (n : Nat) : Nat → List AI → Env → St → Efs → Rds → Option (Env × St)
  | _, [], e, σ, _, _ => some (e, σ)
  | k, i :: l, e, σ, fs, ls => match wantedB e i with
    | some true => (opF rf false i.op e σ).bind fun p => match kindD T pr i e σ p.1 with
      | (0, _) => opsD T pr rf deps n (k + 1) l (e.putO i.dst p.1) σ fs ls
      | (1, r) => if okRd deps n k fs r then opsD T pr rf deps n (k + 1) l (e.putO i.dst p.1) σ fs ((k, r) :: ls) else none
      | (_, _) => if okEf deps n k fs ls σ p.2 then opsD T pr rf deps n (k + 1) l (e.putO i.dst p.1) p.2 ((k, σ, p.2) :: fs) ls else none
    | some false => opsD T pr rf deps n (k + 1) l (e.putO i.dst .skp) σ fs ls
    | none => none
def stepD (T : Nat → Option AF) (pr : Nat → Option (List V → Option V)) (rc : RunC) (rf : Bool → RunF) : RunC := fun k e σ =>
  match k with
  | [] => some (e, σ)
  | .b _ :: k => rc k e σ
  | .l keep c :: k => rc (.c c :: .l keep c :: k) (e.keep keep) σ
  | .c c :: k => match c with
    | .skip => rc k e σ
    | .reg kill ops => (opsF rf false ops e σ).bind fun p => rc k (p.1.del kill) p.2
    | .drw kill deps ops => (opsD T pr rf deps ops.length 0 ops e σ [] []).bind fun p => rc k (p.1.del kill) p.2
    | .seq a b => rc (.c a :: .c b :: k) e σ
    | .cond c kill x y => (boolV (src e c)).bind fun z => rc (.c (if z then x else y) :: k) (e.del kill) σ
    | .blk id c => rc (.c c :: .b id :: k) e σ
    | .loop keep c => rc (.l keep c :: k) e σ
    | .exit id => (exitTo id k).bind fun k' => rc k' e σ
    | .ret => some (e, σ)
def runD (T : Nat → Option AF) (pr : Nat → Option (List V → Option V)) : Nat → RunC
  | 0 => fun _ _ _ => none
  | n + 1 => stepD T pr (runD T pr n) (callF T pr (runD T pr n))
end Go.Proofs.YticpkkjnajmpoaaGreatDoor.KM
