/- Regions that draw their order: one walk in the order of the text is enough. -/
import Derived.Test.YticpkkjnajmpoaaGreatDoorKt
set_option linter.all false
namespace Go.Proofs.YticpkkjnajmpoaaGreatDoor.KM
open Go
variable {T : Nat → Option AF} {pr : Nat → Option (List V → Option V)}

def S.rd : S → List Nat
  | .t n => [n]
  | .k _ => []
def S.rdO : Option S → List Nat
  | some s => s.rd
  | none => []
/-- the slots that an operation looks at -/
def AO.rd : AO → List Nat
  | .mov x | .box _ x | .load _ _ x | .chk x | .un _ x | .cvi _ x | .cvs x | .cvl x | .stb _ x | .bts x | .fad _ x | .fld _ _ _ x | .ext _ x | .len x | .lens x => x.rd
  | .pick c a b => c.rd ++ (a.rd ++ b.rd)
  | .new _ _ | .mmk => []
  | .build _ ps => ps.flatMap fun p => p.2.2.rd
  | .rows _ _ ps | .rowf _ _ ps | .rowo _ _ _ ps => ps.flatMap fun p => p.2.rd
  | .mk _ _ _ x y | .mlk _ x y => x.rd ++ y.rd
  | .mup x k v => x.rd ++ (k.rd ++ v.rd)
  | .mkf _ a c => a.flatMap S.rd ++ c.flatMap S.rd
  | .store _ x v => x.rd ++ v.rd
  | .bin _ x y | .eq _ _ x y | .iad _ x y | .iar _ _ x y | .idx x y | .ida _ _ _ x y | .app _ _ x y | .apps _ x y | .mx x y | .mn x y => x.rd ++ y.rd
  | .slc _ x lo hi m3 => x.rd ++ (S.rdO lo ++ (S.rdO hi ++ S.rdO m3))
  | .slcs x lo hi | .slca _ _ x lo hi => x.rd ++ (S.rdO lo ++ S.rdO hi)
  | .call _ xs => xs.flatMap S.rd
  | .callv x xs => x.rd ++ xs.flatMap S.rd
def AI.rd (i : AI) : List Nat := i.op.rd ++ (match i.g with
  | some (t, _) => [t]
  | none => [])

def Agree (e e' : Env) (l : List Nat) : Prop := ∀ t ∈ l, e.get t = e'.get t
theorem Agree.l {e e' : Env} {a b : List Nat} (h : Agree e e' (a ++ b)) : Agree e e' a := fun t ht => h t (by simp [ht])
theorem Agree.r {e e' : Env} {a b : List Nat} (h : Agree e e' (a ++ b)) : Agree e e' b := fun t ht => h t (by simp [ht])
theorem src_eq {e e' : Env} {s : S} (h : Agree e e' s.rd) : src e s = src e' s := by
  cases s with
  | t n => exact h n (by simp [S.rd])
  | k v => rfl
theorem srcO_eq {e e' : Env} {s : Option S} (h : Agree e e' (S.rdO s)) : s.map (src e) = s.map (src e') := by
  cases s with
  | none => rfl
  | some s => simp only [Option.map_some]; rw [src_eq h]
theorem map_src_eq {e e' : Env} : ∀ {xs : List S}, Agree e e' (xs.flatMap S.rd) → xs.map (src e) = xs.map (src e')
  | [], _ => rfl
  | x :: xs, h => by
    rw [List.flatMap_cons] at h
    rw [List.map_cons, List.map_cons, src_eq h.l, map_src_eq h.r]
theorem evalOp_eq {e e' : Env} {op : AO} (h : Agree e e' op.rd) (σ : St) : evalOp op e σ = evalOp op e' σ := by
  cases op with
  | build z ps =>
    have : (ps.map fun p => (p.1, p.2.1, src e p.2.2)) = ps.map fun p => (p.1, p.2.1, src e' p.2.2) := by
      simp only [AO.rd] at h
      induction ps with
      | nil => rfl
      | cons p ps ih =>
        rw [List.flatMap_cons] at h
        rw [List.map_cons, List.map_cons, src_eq h.l, ih h.r]
    simp only [evalOp, this]
  | rows n z ps =>
    have : (ps.map fun p => (p.1 * z.length, z.length, src e p.2)) = ps.map fun p => (p.1 * z.length, z.length, src e' p.2) := by
      simp only [AO.rd] at h
      induction ps with
      | nil => rfl
      | cons p ps ih =>
        rw [List.flatMap_cons] at h
        rw [List.map_cons, List.map_cons, src_eq h.l, ih h.r]
    simp only [evalOp, this]
  | rowf n z ps =>
    have : (ps.map fun p => (p.1 * z.length, z.length, src e p.2)) = ps.map fun p => (p.1 * z.length, z.length, src e' p.2) := by
      simp only [AO.rd] at h
      induction ps with
      | nil => rfl
      | cons p ps ih =>
        rw [List.flatMap_cons] at h
        rw [List.map_cons, List.map_cons, src_eq h.l, ih h.r]
    simp only [evalOp, this]
  | rowo t n z ps =>
    have : (ps.map fun p => (p.1 * z.length, z.length, src e p.2)) = ps.map fun p => (p.1 * z.length, z.length, src e' p.2) := by
      simp only [AO.rd] at h
      induction ps with
      | nil => rfl
      | cons p ps ih =>
        rw [List.flatMap_cons] at h
        rw [List.map_cons, List.map_cons, src_eq h.l, ih h.r]
    simp only [evalOp, this]
  | call f xs => rfl
  | callv x xs => rfl
  | new t z => rfl
  | mmk => rfl
  | mkf f a c => simp only [evalOp, AO.rd] at h ⊢; rw [map_src_eq h.l, map_src_eq h.r]
  | mup x k v => simp only [evalOp, AO.rd] at h ⊢; rw [src_eq h.l, src_eq h.r.l, src_eq h.r.r]
  | pick c a b => simp only [evalOp, AO.rd] at h ⊢; rw [src_eq h.l, src_eq h.r.l, src_eq h.r.r]
  | slc m x lo hi mx => simp only [evalOp, AO.rd] at h ⊢; rw [src_eq h.l, srcO_eq h.r.l, srcO_eq h.r.r.l, srcO_eq h.r.r.r]
  | slcs x lo hi => simp only [evalOp, AO.rd] at h ⊢; rw [src_eq h.l, srcO_eq h.r.l, srcO_eq h.r.r]
  | slca l m x lo hi => simp only [evalOp, AO.rd] at h ⊢; rw [src_eq h.l, srcO_eq h.r.l, srcO_eq h.r.r]
  | mov x => simp only [evalOp, AO.rd] at h ⊢; rw [src_eq h]
  | box t x => simp only [evalOp, AO.rd] at h ⊢; rw [src_eq h]
  | load n one x => simp only [evalOp, AO.rd] at h ⊢; rw [src_eq h]
  | chk x => simp only [evalOp, AO.rd] at h ⊢; rw [src_eq h]
  | un o x => simp only [evalOp, AO.rd] at h ⊢; rw [src_eq h]
  | cvi k x => simp only [evalOp, AO.rd] at h ⊢; rw [src_eq h]
  | cvs x => simp only [evalOp, AO.rd] at h ⊢; rw [src_eq h]
  | cvl x => simp only [evalOp, AO.rd] at h ⊢; rw [src_eq h]
  | stb t x => simp only [evalOp, AO.rd] at h ⊢; rw [src_eq h]
  | bts x => simp only [evalOp, AO.rd] at h ⊢; rw [src_eq h]
  | fad o x => simp only [evalOp, AO.rd] at h ⊢; rw [src_eq h]
  | fld o n b x => simp only [evalOp, AO.rd] at h ⊢; rw [src_eq h]
  | ext i x => simp only [evalOp, AO.rd] at h ⊢; rw [src_eq h]
  | len x => simp only [evalOp, AO.rd] at h ⊢; rw [src_eq h]
  | lens x => simp only [evalOp, AO.rd] at h ⊢; rw [src_eq h]
  | store n x v => simp only [evalOp, AO.rd] at h ⊢; rw [src_eq h.l, src_eq h.r]
  | bin o x y => simp only [evalOp, AO.rd] at h ⊢; rw [src_eq h.l, src_eq h.r]
  | eq k b x y => simp only [evalOp, AO.rd] at h ⊢; rw [src_eq h.l, src_eq h.r]
  | iad m x y => simp only [evalOp, AO.rd] at h ⊢; rw [src_eq h.l, src_eq h.r]
  | iar l m x y => simp only [evalOp, AO.rd] at h ⊢; rw [src_eq h.l, src_eq h.r]
  | ida l m one x y => simp only [evalOp, AO.rd] at h ⊢; rw [src_eq h.l, src_eq h.r]
  | idx x y => simp only [evalOp, AO.rd] at h ⊢; rw [src_eq h.l, src_eq h.r]
  | app b m x y => simp only [evalOp, AO.rd] at h ⊢; rw [src_eq h.l, src_eq h.r]
  | apps t x y => simp only [evalOp, AO.rd] at h ⊢; rw [src_eq h.l, src_eq h.r]
  | mx x y => simp only [evalOp, AO.rd] at h ⊢; rw [src_eq h.l, src_eq h.r]
  | mn x y => simp only [evalOp, AO.rd] at h ⊢; rw [src_eq h.l, src_eq h.r]
  | mk t b z x y => simp only [evalOp, AO.rd] at h ⊢; rw [src_eq h.l, src_eq h.r]
  | mlk z x y => simp only [evalOp, AO.rd] at h ⊢; rw [src_eq h.l, src_eq h.r]

/-- 0: it leaves the state and does not look at it; 1: it reads; 2: it may change it -/
def cls (T : Nat → Option AF) (pr : Nat → Option (List V → Option V)) : AO → Nat
  | .load _ _ _ => 1
  | .new _ _ | .box _ _ | .store _ _ _ | .app _ _ _ _ | .apps _ _ _ | .rowf _ _ _ | .rowo _ _ _ _ | .mk _ _ _ _ _ | .stb _ _ | .bts _ | .cvl _ | .mmk | .mlk _ _ _ | .mup _ _ _ | .callv _ _ => 2
  | .call f _ => match pr f with
    | some _ => 0
    | none => match T f with
      | some F => if F.thr then 2 else 0
      | none => 2
  | _ => 0

theorem map_calm {σ σ1 : St} {v : V} {x : Option V} (h : x.map (fun v => (v, σ)) = some (v, σ1)) : σ1 = σ ∧ x = some v := by
  cases x with
  | none => simp at h
  | some y => simp at h; exact ⟨h.2.symm, by rw [h.1]⟩
theorem evalOp_calm {op : AO} (h0 : cls T pr op = 0) {e : Env} {σ σ1 : St} {v : V} (h : evalOp op e σ = some (v, σ1)) : σ1 = σ ∧ ∀ σ', evalOp op e σ' = some (v, σ') := by
  cases op with
  | new | box | store | app | apps | load | rowf | rowo | mk | stb | bts | cvl | mmk | mlk | mup | callv => simp [cls] at h0
  | call => simp [evalOp] at h
  | mov x => simp only [evalOp] at h ⊢; cases h; exact ⟨rfl, fun _ => rfl⟩
  | pick c a b =>
    simp only [evalOp] at h ⊢
    split at h
    · cases h; exact ⟨rfl, fun _ => rfl⟩
    · cases h
  | build z ps =>
    simp only [evalOp] at h ⊢
    cases hf : fills z (ps.map fun p => (p.1, p.2.1, src e p.2.2)) with
    | none => rw [hf] at h; simp at h
    | some cs => rw [hf] at h; simp at h; exact ⟨h.2.symm, fun σ' => by simp [h.1]⟩
  | rows n z ps =>
    simp only [evalOp] at h ⊢
    cases hf : fills (List.replicate n z).flatten (ps.map fun p => (p.1 * z.length, z.length, src e p.2)) with
    | none => rw [hf] at h; simp at h
    | some cs =>
      rw [hf] at h
      simp only [Option.bind_some] at h ⊢
      split at h
      · rename_i hs
        cases h
        exact ⟨rfl, fun σ' => by rw [if_pos hs]⟩
      · cases h
  | mkf f a c =>
    simp only [evalOp] at h ⊢
    split at h
    · rename_i hs
      cases h
      exact ⟨rfl, fun σ' => by rw [if_pos hs]⟩
    · cases h
  | slca l m x lo hi =>
    simp only [evalOp] at h ⊢
    split at h
    · simp only [Option.bind_eq_some_iff] at h
      obtain ⟨p, hp, q, hq, h⟩ := h
      split at h
      · rename_i hle
        cases h
        exact ⟨rfl, fun σ' => by simp [hp, hq, hle]⟩
      · cases h
    · cases h
  | chk x =>
    simp only [evalOp] at h ⊢
    split at h
    · cases h; exact ⟨rfl, fun _ => rfl⟩
    · cases h; exact ⟨rfl, fun _ => rfl⟩
    · cases h
  | bin o x y => simp only [evalOp] at h ⊢; obtain ⟨h1, h2⟩ := map_calm h; exact ⟨h1, fun σ' => by rw [h2]; rfl⟩
  | eq k b x y =>
    simp only [evalOp] at h ⊢
    cases hf : eqV k (src e x) (src e y) with
    | none => rw [hf] at h; simp at h
    | some z => rw [hf] at h; simp at h; exact ⟨h.2.symm, fun σ' => by simp [h.1]⟩
  | un o x => simp only [evalOp] at h ⊢; obtain ⟨h1, h2⟩ := map_calm h; exact ⟨h1, fun σ' => by rw [h2]; rfl⟩
  | cvi k x =>
    simp only [evalOp] at h ⊢
    split at h
    · cases h; exact ⟨rfl, fun _ => rfl⟩
    · cases h
  | cvs x =>
    simp only [evalOp] at h ⊢
    split at h
    · cases h; exact ⟨rfl, fun _ => rfl⟩
    · cases h
  | slc m x lo hi m3 => simp only [evalOp] at h ⊢; obtain ⟨h1, h2⟩ := map_calm h; exact ⟨h1, fun σ' => by rw [h2]; rfl⟩
  | slcs x lo hi => simp only [evalOp] at h ⊢; obtain ⟨h1, h2⟩ := map_calm h; exact ⟨h1, fun σ' => by rw [h2]; rfl⟩
  | fad o x =>
    simp only [evalOp] at h ⊢
    split at h
    · cases h; exact ⟨rfl, fun _ => rfl⟩
    · cases h; exact ⟨rfl, fun _ => rfl⟩
    · cases h
  | fld o n b x =>
    simp only [evalOp] at h ⊢
    split at h
    · split at h
      · rename_i hle
        obtain ⟨h1, h2⟩ := map_calm h
        exact ⟨h1, fun σ' => by simp only [if_pos hle, h2]; rfl⟩
      · cases h
    · cases h
  | iad m x i =>
    simp only [evalOp] at h ⊢
    split at h
    · rename_i t xs e1
      cases hf : atI xs (src e i) with
      | none => rw [hf] at h; simp at h
      | some r =>
        rw [hf] at h
        simp only [Option.bind_some] at h
        split at h
        · rename_i hr
          cases h
          exact ⟨rfl, fun σ' => by simp [hf, hr]⟩
        · cases h
    · split at h
      · split at h
        · rename_i hc
          cases h
          exact ⟨rfl, fun σ' => by simp only [if_pos hc]⟩
        · cases h
      · cases h
    · cases h
  | ida l m one x i =>
    simp only [evalOp] at h ⊢
    split at h
    · split at h
      · rename_i hn
        split at h
        · split at h
          · rename_i hle
            simp only [Option.map_eq_some_iff] at h
            obtain ⟨v', h, h2⟩ := h
            cases h2
            exact ⟨rfl, fun τ => by simp only [if_pos hn, if_pos hle, h, Option.map_some]⟩
          · cases h
        · cases h
      · cases h
    · cases h
  | iar l m x i =>
    simp only [evalOp] at h ⊢
    split at h
    · split at h
      · rename_i hn
        split at h
        · cases h; exact ⟨rfl, fun _ => by simp only [if_pos hn]⟩
        · cases h; exact ⟨rfl, fun _ => by simp only [if_pos hn]⟩
        · cases h
      · cases h
    · cases h
  | idx x i =>
    simp only [evalOp] at h ⊢
    split at h
    · rename_i l e1
      cases hf : atI l (src e i) with
      | none => rw [hf] at h; simp at h
      | some r => rw [hf] at h; simp at h; exact ⟨h.2.symm, fun σ' => by simp [hf, h.1]⟩
    · cases h
  | ext i x =>
    simp only [evalOp] at h ⊢
    split at h
    · rename_i vs e1
      cases hf : vs[i]? with
      | none => rw [hf] at h; simp at h
      | some r => rw [hf] at h; simp at h; exact ⟨h.2.symm, fun σ' => by simp [hf, h.1]⟩
    · cases h
  | len x =>
    simp only [evalOp] at h ⊢
    split at h
    · cases h; exact ⟨rfl, fun _ => rfl⟩
    · cases h; exact ⟨rfl, fun _ => rfl⟩
    · cases h; exact ⟨rfl, fun _ => rfl⟩
    · cases h
  | lens x =>
    simp only [evalOp] at h ⊢
    split at h
    · cases h; exact ⟨rfl, fun _ => rfl⟩
    · cases h
  | mx x y =>
    simp only [evalOp] at h ⊢
    split at h
    · split at h
      · rename_i hk; cases h; exact ⟨rfl, fun _ => by simp only [if_pos hk]⟩
      · cases h
    · cases h
  | mn x y =>
    simp only [evalOp] at h ⊢
    split at h
    · split at h
      · rename_i hk; cases h; exact ⟨rfl, fun _ => by simp only [if_pos hk]⟩
      · cases h
    · cases h

/-- with nothing of the objects in it, what goes over does not look at the state -/
theorem settle_nil (σ σ' : St) : ∀ (d : Nat) (v : V), settle σ [] d v = settle σ' [] d v
  | 0, _ => rfl
  | d + 1, v => by
    unfold settle
    split
    · rfl
    · cases v <;> simp
theorem settle1_nil (σ σ' : St) (v : V) : settle1 σ [] v = settle1 σ' [] v := by
  unfold settle1
  split
  · rfl
  · rw [show settle σ [] 9 = settle σ' [] 9 from funext (settle_nil σ σ' 9)]
  · exact settle_nil σ σ' 9 v
theorem jsOf_nil {σ : St} {args : List V} (h : refsL args = []) : jsOf σ args = [] := by
  unfold jsOf
  rw [h]
  simp [clo]
theorem over_nil {σ : St} {args : List V} (h : refsL args = []) (σ' : St) : over σ' args = over σ args := by
  unfold over
  rw [jsOf_nil h, jsOf_nil h, show settle1 σ' [] = settle1 σ [] from funext (settle1_nil σ' σ)]
theorem after_nil {σ : St} {args : List V} (h : refsL args = []) (v : V) : after σ args v = σ := by
  unfold after
  rw [jsOf_nil h]
  split <;> rfl

/-- one operation's step, of those that a region with a drawn order may hold -/
inductive Stp (T : Nat → Option AF) (pr : Nat → Option (List V → Option V)) : AI → Env → St → V → St → Prop
  | off {i : AI} {e : Env} {σ : St} : wantedB e i = some false → Stp T pr i e σ .skp σ
  | val {i : AI} {e : Env} {σ σ1 : St} {v : V} : wantedB e i = some true → evalOp i.op e σ = some (v, σ1) → Stp T pr i e σ v σ1
  | prim {d : Option Nat} {g : Option (Nat × Bool)} {f : Nat} {xs : List S} {e : Env} {σ : St} {s : List V → Option V} {vs : List V} {v : V} : wantedB e ⟨d, .call f xs, g⟩ = some true → pr f = some s → refsL (xs.map (src e)) = [] →
      over [] (xs.map (src e)) = some vs → s vs = some v → Stp T pr ⟨d, .call f xs, g⟩ e σ v σ
  | pure {d : Option Nat} {g : Option (Nat × Bool)} {f : Nat} {xs : List S} {e : Env} {σ : St} {vs : List V} {v : V} : wantedB e ⟨d, .call f xs, g⟩ = some true → refsL (xs.map (src e)) = [] →
      over [] (xs.map (src e)) = some vs → Fn T pr f vs v → Stp T pr ⟨d, .call f xs, g⟩ e σ v σ
  | thr {d : Option Nat} {g : Option (Nat × Bool)} {f : Nat} {xs : List S} {e : Env} {σ σ1 : St} {F : AF} {v : V} : wantedB e ⟨d, .call f xs, g⟩ = some true → T f = some F → F.thr = true → F.spec = none → pr f = none →
      Ev T pr (.fn f (xs.map (src e)) σ v σ1) → Stp T pr ⟨d, .call f xs, g⟩ e σ v σ1
  | spec {d : Option Nat} {g : Option (Nat × Bool)} {f : Nat} {xs : List S} {e : Env} {σ σ1 : St} {F : AF} {s : List V → St → Option (V × St)} {v : V} : wantedB e ⟨d, .call f xs, g⟩ = some true → T f = some F → F.thr = true → F.spec = some s → pr f = none →
      s (xs.map (src e)) σ = some (v, σ1) → Stp T pr ⟨d, .call f xs, g⟩ e σ v σ1
  | vprim {d : Option Nat} {g : Option (Nat × Bool)} {f : Nat} {x : S} {xs : List S} {args : List V} {e : Env} {σ : St} {s : List V → Option V} {vs : List V} {v : V} : wantedB e ⟨d, .callv x xs, g⟩ = some true → calleeOf e (.callv x xs) = some (f, args) → pr f = some s →
      over σ args = some vs → s vs = some v → Stp T pr ⟨d, .callv x xs, g⟩ e σ v (after σ args v)
  | vpure {d : Option Nat} {g : Option (Nat × Bool)} {f : Nat} {x : S} {xs : List S} {args : List V} {e : Env} {σ : St} {vs : List V} {v : V} : wantedB e ⟨d, .callv x xs, g⟩ = some true → calleeOf e (.callv x xs) = some (f, args) →
      over σ args = some vs → Fn T pr f vs v → Stp T pr ⟨d, .callv x xs, g⟩ e σ v (after σ args v)
  | vthr {d : Option Nat} {g : Option (Nat × Bool)} {f : Nat} {x : S} {xs : List S} {args : List V} {e : Env} {σ σ1 : St} {F : AF} {v : V} : wantedB e ⟨d, .callv x xs, g⟩ = some true → calleeOf e (.callv x xs) = some (f, args) → T f = some F → F.thr = true → F.spec = none →
      Ev T pr (.fn f args σ v σ1) → Stp T pr ⟨d, .callv x xs, g⟩ e σ v σ1
theorem Stp.ev {i : AI} {l : List AI} {e e' : Env} {σ σ1 σ' : St} {v : V} (h : Stp T pr i e σ v σ1) (g : Ev T pr (.ops l (e.putO i.dst v) σ1 e' σ')) : Ev T pr (.ops (i :: l) e σ e' σ') := by
  cases h with
  | off hw => exact .opsSkip hw g
  | val hw hv => exact .opsVal hw hv g
  | prim hw hp hn hx hs => exact .opsPrim hw rfl hp ((over_nil hn _).trans hx) hs (by rw [after_nil hn]; exact g)
  | pure hw hn hx hf =>
    obtain ⟨F, h1, h2, hsp, v0, σ0, h3, h4⟩ := hf
    exact .opsPure hw rfl h1 h2 hsp ((over_nil hn _).trans hx) h3 h4 (by rw [after_nil hn]; exact g)
  | thr hw h1 h2 hsp _ h3 => exact .opsThr hw rfl h1 h2 hsp h3 g
  | spec hw h1 h2 hsp _ h3 => exact .opsSpec hw rfl h1 h2 hsp h3 g
  | vprim hw hc hp hx hs => exact .opsPrim hw hc hp hx hs g
  | vpure hw hc hx hf =>
    obtain ⟨F, h1, h2, hsp, v0, σ0, h3, h4⟩ := hf
    exact .opsPure hw hc h1 h2 hsp hx h3 h4 g
  | vthr hw hc h1 h2 hsp h3 => exact .opsThr hw hc h1 h2 hsp h3 g

theorem wanted_agree {e e' : Env} {i : AI} (h : Agree e e' i.rd) : wantedB e i = wantedB e' i := by
  unfold wantedB
  cases hg : i.g with
  | none => rfl
  | some p =>
    obtain ⟨t, b⟩ := p
    have := h t (by simp [AI.rd, hg])
    simp only [this]
theorem callee_agree {e e' : Env} {x : S} {xs : List S} (h : Agree e e' (AO.callv x xs).rd) : calleeOf e (.callv x xs) = calleeOf e' (.callv x xs) := by
  have h' : Agree e e' (x.rd ++ xs.flatMap S.rd) := h
  simp only [calleeOf]
  rw [src_eq h'.l, map_src_eq h'.r]
/-- a step looks at its slots alone; a calm one does not look at the state; one that reads, at what it reads -/
theorem Stp.move {i : AI} {e e' : Env} {σ σ1 : St} {v : V} (h : Stp T pr i e σ v σ1) (ha : Agree e e' i.rd) :
    Stp T pr i e' σ v σ1 ∧ (cls T pr i.op ≠ 2 → σ1 = σ) ∧ (cls T pr i.op = 0 → ∀ σ', Stp T pr i e' σ' v σ') ∧
    (∀ n one x, i.op = .load n one x → ∀ σ', loadV σ' n one (src e x) = loadV σ n one (src e x) → Stp T pr i e' σ' v σ') := by
  have hw := wanted_agree ha
  cases h with
  | off h => exact ⟨.off (hw ▸ h), fun _ => rfl, fun _ σ' => .off (hw ▸ h), fun _ _ _ _ σ' _ => .off (hw ▸ h)⟩
  | val h hv =>
    have he := evalOp_eq (op := i.op) ha.l
    refine ⟨.val (hw ▸ h) (he σ ▸ hv), fun hc => ?_, fun hc σ' => ?_, fun n one x hop σ' hl => ?_⟩
    · by_cases h0 : cls T pr i.op = 0
      · exact (evalOp_calm h0 hv).1
      · cases hop : i.op with
        | load n one x =>
          rw [hop] at hv
          simp only [evalOp, Option.map_eq_some_iff] at hv
          obtain ⟨_, _, h⟩ := hv
          cases h
          rfl
        | _ => rw [hop] at h0 hc hv; simp [cls] at h0 hc <;> simp [evalOp] at hv
    · exact .val (hw ▸ h) (he σ' ▸ (evalOp_calm hc hv).2 σ')
    · refine .val (hw ▸ h) (he σ' ▸ ?_)
      rw [hop] at hv ⊢
      simp only [evalOp] at hv ⊢
      rw [hl]
      cases hl2 : loadV σ n one (src e x) with
      | none => rw [hl2] at hv; simp at hv
      | some y => rw [hl2] at hv; simp at hv; simp [hv.1]
  | prim h hp hn hx hs =>
    have hm := map_src_eq (xs := _) (show Agree e e' _ from ha.l)
    rw [hm] at hx hn
    exact ⟨.prim (hw ▸ h) hp hn hx hs, fun _ => rfl, fun _ σ' => .prim (hw ▸ h) hp hn hx hs, fun _ _ _ hop => by cases hop⟩
  | pure h hn hx hf =>
    have hm := map_src_eq (xs := _) (show Agree e e' _ from ha.l)
    rw [hm] at hx hn
    exact ⟨.pure (hw ▸ h) hn hx hf, fun _ => rfl, fun _ σ' => .pure (hw ▸ h) hn hx hf, fun _ _ _ hop => by cases hop⟩
  | spec h h1 h2 hsp hp h3 =>
    have hm := map_src_eq (xs := _) (show Agree e e' _ from ha.l)
    rw [hm] at h3
    refine ⟨.spec (hw ▸ h) h1 h2 hsp hp h3, fun hc => ?_, fun hc => ?_, fun _ _ _ hop => by cases hop⟩
    · simp [cls, hp, h1, h2] at hc
    · simp [cls, hp, h1, h2] at hc
  | thr h h1 h2 hsp hp h3 =>
    have hm := map_src_eq (xs := _) (show Agree e e' _ from ha.l)
    rw [hm] at h3
    refine ⟨.thr (hw ▸ h) h1 h2 hsp hp h3, fun hc => ?_, fun hc => ?_, fun _ _ _ hop => by cases hop⟩
    · simp [cls, hp, h1, h2] at hc
    · simp [cls, hp, h1, h2] at hc
  | vprim h hc hp hx hs => exact ⟨.vprim (hw ▸ h) (by rw [← callee_agree ha.l]; exact hc) hp hx hs, fun hc => by simp [cls] at hc, fun hc => by simp [cls] at hc, fun _ _ _ hop => by cases hop⟩
  | vpure h hc hx hf => exact ⟨.vpure (hw ▸ h) (by rw [← callee_agree ha.l]; exact hc) hx hf, fun hc => by simp [cls] at hc, fun hc => by simp [cls] at hc, fun _ _ _ hop => by cases hop⟩
  | vthr h hc h1 h2 hsp h3 => exact ⟨.vthr (hw ▸ h) (by rw [← callee_agree ha.l]; exact hc) h1 h2 hsp h3, fun hc => by simp [cls] at hc, fun hc => by simp [cls] at hc, fun _ _ _ hop => by cases hop⟩

/-- a list of such steps -/
inductive SO (T : Nat → Option AF) (pr : Nat → Option (List V → Option V)) : List AI → Env → St → Env → St → Prop
  | nil {e : Env} {σ : St} : SO T pr [] e σ e σ
  | cons {i : AI} {l : List AI} {e e' : Env} {σ σ1 σ' : St} {v : V} : Stp T pr i e σ v σ1 → SO T pr l (e.putO i.dst v) σ1 e' σ' → SO T pr (i :: l) e σ e' σ'
end Go.Proofs.YticpkkjnajmpoaaGreatDoor.KM
