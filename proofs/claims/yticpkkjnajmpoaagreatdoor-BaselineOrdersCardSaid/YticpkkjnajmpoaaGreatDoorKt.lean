/- Rules by which code of the plain machine is walked. -/
import Derived.Test.YticpkkjnajmpoaaGreatDoorKa
set_option linter.all false
namespace Go.Proofs.YticpkkjnajmpoaaGreatDoor.KM
open Go
variable {T : Nat → Option AF} {pr : Nat → Option (List V → Option V)}

def W (T : Nat → Option AF) (pr : Nat → Option (List V → Option V)) (k : List It) (e : Env) (σ : St) (Q : Env → St → Prop) : Prop := ∃ e' σ', Ev T pr (.code k e σ e' σ') ∧ Q e' σ'
def WO (T : Nat → Option AF) (pr : Nat → Option (List V → Option V)) (l : List AI) (e : Env) (σ : St) (Q : Env → St → Prop) : Prop := ∃ e' σ', Ev T pr (.ops l e σ e' σ') ∧ Q e' σ'
def WF (T : Nat → Option AF) (pr : Nat → Option (List V → Option V)) (f : Nat) (args : List V) (σ : St) (Q : V → St → Prop) : Prop := ∃ v σ', Ev T pr (.fn f args σ v σ') ∧ Q v σ'

section
variable {Q : Env → St → Prop} {e : Env} {σ : St} {k : List It}
theorem W_seq {a b : AC} (h : W T pr (.c a :: .c b :: k) e σ Q) : W T pr (.c (.seq a b) :: k) e σ Q := let ⟨e', σ', h, q⟩ := h; ⟨e', σ', .cSeq h, q⟩
theorem W_skip (h : W T pr k e σ Q) : W T pr (.c .skip :: k) e σ Q := let ⟨e', σ', h, q⟩ := h; ⟨e', σ', .cSkip h, q⟩
theorem W_blk {id : Nat} {c : AC} (h : W T pr (.c c :: .b id :: k) e σ Q) : W T pr (.c (.blk id c) :: k) e σ Q := let ⟨e', σ', h, q⟩ := h; ⟨e', σ', .cBlk h, q⟩
theorem W_end {id : Nat} (h : W T pr k e σ Q) : W T pr (.b id :: k) e σ Q := let ⟨e', σ', h, q⟩ := h; ⟨e', σ', .cEnd h, q⟩
theorem W_loop {keep : List Nat} {c : AC} (h : W T pr (.l keep c :: k) e σ Q) : W T pr (.c (.loop keep c) :: k) e σ Q := let ⟨e', σ', h, q⟩ := h; ⟨e', σ', .cLoop h, q⟩
theorem W_again {keep : List Nat} {c : AC} (h : W T pr (.c c :: .l keep c :: k) (e.keep keep) σ Q) : W T pr (.l keep c :: k) e σ Q := let ⟨e', σ', h, q⟩ := h; ⟨e', σ', .cAgain h, q⟩
theorem W_exit {id : Nat} {k' : List It} (hk : exitTo id k = some k') (h : W T pr k' e σ Q) : W T pr (.c (.exit id) :: k) e σ Q := let ⟨e', σ', h, q⟩ := h; ⟨e', σ', .cExit hk h, q⟩
theorem W_ret (q : Q e σ) : W T pr (.c .ret :: k) e σ Q := ⟨e, σ, .cRet, q⟩
theorem W_nil (q : Q e σ) : W T pr [] e σ Q := ⟨e, σ, .cNil, q⟩
theorem W_reg {kill : List Nat} {ops : List AI} (h : ∀ K : Env → St → Prop, (∀ e1 σ1, W T pr k (e1.del kill) σ1 Q → K e1 σ1) → WO T pr ops e σ K) : W T pr (.c (.reg kill ops) :: k) e σ Q :=
  let ⟨_, _, h, e', σ', h2, q⟩ := h _ fun _ _ h => h
  ⟨e', σ', .cReg h h2, q⟩
theorem W_cond {c : S} {kill : List Nat} {x y : AC} {z : Bool} (hc : src e c = .bool z) (h1 : z = true → W T pr (.c x :: k) (e.del kill) σ Q) (h2 : z = false → W T pr (.c y :: k) (e.del kill) σ Q) : W T pr (.c (.cond c kill x y) :: k) e σ Q := by
  cases z with
  | true =>
    obtain ⟨e', σ', h, q⟩ := h1 rfl
    exact ⟨e', σ', .cCond hc h, q⟩
  | false =>
    obtain ⟨e', σ', h, q⟩ := h2 rfl
    exact ⟨e', σ', .cCond hc h, q⟩
theorem W_cond_t {c : S} {kill : List Nat} {x y : AC} (hc : src e c = .bool true) (h : W T pr (.c x :: k) (e.del kill) σ Q) : W T pr (.c (.cond c kill x y) :: k) e σ Q := W_cond hc (fun _ => h) (fun h => by cases h)
theorem W_cond_f {c : S} {kill : List Nat} {x y : AC} (hc : src e c = .bool false) (h : W T pr (.c y :: k) (e.del kill) σ Q) : W T pr (.c (.cond c kill x y) :: k) e σ Q := W_cond hc (fun h => by cases h) (fun _ => h)
theorem W_loop_ind {keep : List Nat} {c : AC} (I : Nat → Env → St → Prop) (h : ∀ n e σ, I n e σ → (∀ m e' σ', m < n → I m e' σ' → W T pr (.l keep c :: k) e' σ' Q) → W T pr (.c c :: .l keep c :: k) (e.keep keep) σ Q) : ∀ (n : Nat) (e : Env) (σ : St), I n e σ → W T pr (.l keep c :: k) e σ Q := by
  intro n
  induction n using Nat.strongRecOn with
  | _ n ih => exact fun e σ hI => W_again (h n e σ hI fun m e' σ' hm hI' => ih m hm e' σ' hI')
theorem WO_nil (q : Q e σ) : WO T pr [] e σ Q := ⟨e, σ, .opsNil, q⟩
theorem WO_val {d : Option Nat} {op : AO} {l : List AI} {v : V} {σ1 : St} (hv : evalOp op e σ = some (v, σ1)) (h : WO T pr l (e.putO d v) σ1 Q) : WO T pr (⟨d, op, none⟩ :: l) e σ Q :=
  let ⟨e', σ', h, q⟩ := h
  ⟨e', σ', .opsVal rfl hv h, q⟩
theorem WO_valg {d : Option Nat} {op : AO} {g : Nat × Bool} {l : List AI} {v : V} {σ1 : St} (hg : wantedB e ⟨d, op, some g⟩ = some true) (hv : evalOp op e σ = some (v, σ1)) (h : WO T pr l (e.putO d v) σ1 Q) : WO T pr (⟨d, op, some g⟩ :: l) e σ Q :=
  let ⟨e', σ', h, q⟩ := h
  ⟨e', σ', .opsVal hg hv h, q⟩
theorem WO_off {d : Option Nat} {op : AO} {g : Nat × Bool} {l : List AI} (hg : wantedB e ⟨d, op, some g⟩ = some false) (h : WO T pr l (e.putO d .skp) σ Q) : WO T pr (⟨d, op, some g⟩ :: l) e σ Q :=
  let ⟨e', σ', h, q⟩ := h
  ⟨e', σ', .opsSkip hg h, q⟩
theorem WO_prim {i : AI} {f : Nat} {args : List V} {l : List AI} {s : List V → Option V} {vs : List V} {v : V} (hg : wantedB e i = some true) (hc : calleeOf e i.op = some (f, args)) (hp : pr f = some s)
    (hx : over σ args = some vs) (hs : s vs = some v) (h : WO T pr l (e.putO i.dst v) (after σ args v) Q) : WO T pr (i :: l) e σ Q :=
  let ⟨e', σ', h, q⟩ := h
  ⟨e', σ', .opsPrim hg hc hp hx hs h, q⟩
/-- a pure function gives a value -/
def Fn (T : Nat → Option AF) (pr : Nat → Option (List V → Option V)) (f : Nat) (vs : List V) (v : V) : Prop := ∃ F, T f = some F ∧ F.thr = false ∧ F.spec = none ∧ ∃ v0 σ0, Ev T pr (.fn f vs [] v0 σ0) ∧ back σ0 v0 = some v
theorem WO_pure {i : AI} {f : Nat} {args : List V} {l : List AI} {vs : List V} {v : V} (hg : wantedB e i = some true) (hc : calleeOf e i.op = some (f, args))
    (hx : over σ args = some vs) (hf : Fn T pr f vs v) (h : WO T pr l (e.putO i.dst v) (after σ args v) Q) : WO T pr (i :: l) e σ Q :=
  let ⟨e', σ', h, q⟩ := h
  let ⟨_, hT, ht, hsp, _, _, hE, hv⟩ := hf
  ⟨e', σ', .opsPure hg hc hT ht hsp hx hE hv h, q⟩
/-- a threaded function -/
def Th (T : Nat → Option AF) (pr : Nat → Option (List V → Option V)) (f : Nat) (vs : List V) (σ : St) (v : V) (σ' : St) : Prop := ∃ F, T f = some F ∧ F.thr = true ∧ F.spec = none ∧ Ev T pr (.fn f vs σ v σ')
theorem WO_thr {i : AI} {f : Nat} {args : List V} {l : List AI} {σ1 : St} {v : V} (hg : wantedB e i = some true) (hc : calleeOf e i.op = some (f, args)) (hf : Th T pr f args σ v σ1) (h : WO T pr l (e.putO i.dst v) σ1 Q) : WO T pr (i :: l) e σ Q :=
  let ⟨e', σ', h, q⟩ := h
  let ⟨_, hT, ht, hsp, hE⟩ := hf
  ⟨e', σ', .opsThr hg hc hT ht hsp hE h, q⟩
theorem WO_spec {i : AI} {f : Nat} {args : List V} {l : List AI} {σ1 : St} {v : V} {F : AF} {s : List V → St → Option (V × St)} (hg : wantedB e i = some true) (hc : calleeOf e i.op = some (f, args)) (hT : T f = some F) (ht : F.thr = true) (hsp : F.spec = some s) (hs : s args σ = some (v, σ1)) (h : WO T pr l (e.putO i.dst v) σ1 Q) : WO T pr (i :: l) e σ Q :=
  let ⟨e', σ', h, q⟩ := h
  ⟨e', σ', .opsSpec hg hc hT ht hsp hs h, q⟩
/-- what a function's end asks: nothing of its own objects is named any more -/
def Left (n : Nat) (σ : St) (v : V) (σ1 : St) : Prop := okRes v = true ∧ within n [] v.refs = true ∧ ∀ i ob, i < n → σ1[i]? = some ob → σ[i]? = some ob ∨ within n [] ob.refs = true
theorem Th_intro {f : Nat} {vs : List V} {v : V} {F : AF} {σ' : St} (hT : T f = some F) (ht : F.thr = true) (hsp : F.spec = none) (hl : vs.length = F.pars) (h : W T pr [.c F.body] (parEnv 0 vs) σ fun e' σ1 => resV e' σ1 F.res = some v ∧ Left σ.length σ v σ1 ∧ σ' = σ1.take σ.length) : Th T pr f vs σ v σ' := by
  obtain ⟨e', σ1, hE, hr, ⟨h1, h2, h3⟩, rfl⟩ := h
  exact ⟨F, hT, ht, hsp, .fn hT hsp hl hE hr h1 h2 h3⟩
theorem ThL_intro {f : Nat} {vs : List V} {v : V} {F : AF} {σ' : St} (hT : T f = some F) (ht : F.thr = true) (hsp : F.spec = none) (hl : vs.length = F.pars) (h : W T pr [.c F.body] (parEnv 0 vs) σ fun e' σ1 => ∃ v0 js, resV e' σ1 F.res = some v0 ∧ leaveSome σ.length js v0 σ1 = true ∧ v = v0.ren (ren σ.length js) ∧ σ' = (σ1.take σ.length ++ js.filterMap (σ1[·]?)).map (Ob.ren (ren σ.length js))) : Th T pr f vs σ v σ' := by
  obtain ⟨e', σ1, hE, v0, js, hr, hl2, rfl, rfl⟩ := h
  exact ⟨F, hT, ht, hsp, .fnL hT hsp hl hE hr hl2⟩
/-- a pure function whose result names no object -/
theorem Fn_intro {f : Nat} {vs : List V} {v : V} {F : AF} (hT : T f = some F) (ht : F.thr = false) (hsp : F.spec = none) (hl : vs.length = F.pars) (h : W T pr [.c F.body] (parEnv 0 vs) [] fun e' σ' => ∃ v0, resV e' σ' F.res = some v0 ∧ okRes v0 = true ∧ v0.refs = [] ∧ back [] v0 = some v) : Fn T pr f vs v := by
  obtain ⟨e', σ', hE, v0, hr, ho, hn, hb⟩ := h
  have := Ev.fn (T := T) (pr := pr) hT hsp hl hE hr ho (by rw [hn]; rfl) (fun i ob hi => by simp at hi)
  exact ⟨F, hT, ht, hsp, v0, _, this, hb⟩
/-- a pure function whose result names objects: they are settled -/
theorem FnL_intro {f : Nat} {vs : List V} {v : V} {F : AF} (hT : T f = some F) (ht : F.thr = false) (hsp : F.spec = none) (hl : vs.length = F.pars) (h : W T pr [.c F.body] (parEnv 0 vs) [] fun e' σ1 => ∃ v0 js, resV e' σ1 F.res = some v0 ∧ leaveSome 0 js v0 σ1 = true ∧ back ((js.filterMap (σ1[·]?)).map (Ob.ren (ren 0 js))) (v0.ren (ren 0 js)) = some v) : Fn T pr f vs v := by
  obtain ⟨e', σ', hE, v0, js, hr, hl2, hb⟩ := h
  have := Ev.fnL (T := T) (pr := pr) hT hsp hl hE hr hl2
  exact ⟨F, hT, ht, hsp, _, _, this, by simpa using hb⟩
end
end Go.Proofs.YticpkkjnajmpoaaGreatDoor.KM
