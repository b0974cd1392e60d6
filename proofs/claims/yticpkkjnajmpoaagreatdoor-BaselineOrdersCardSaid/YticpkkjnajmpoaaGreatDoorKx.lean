/- The plain machine as a function: what code gives, by equations. Whatever it gives comes of the code in the sense of Ev. -/
import Derived.Test.YticpkkjnajmpoaaGreatDoorKw
set_option linter.all false
namespace Go.Proofs.YticpkkjnajmpoaaGreatDoor.KM
open Go
variable {T : Nat → Option AF} {pr : Nat → Option (List V → Option V)}

abbrev RunC := List It → Env → St → Option (Env × St)
abbrev RunF := Nat → List V → St → Option (V × St)

/-- what a function hands back -/
def finF (F : AF) (n : Nat) (p : Env × St) : Option (V × St) := (resV p.1 p.2 F.res).bind fun v => leave n v p.2
def bodyF (rc : RunC) (F : AF) (vs : List V) (σ : St) : Option (V × St) :=
  if vs.length = F.pars then (rc [.c F.body] (parEnv 0 vs) σ).bind (finF F σ.length) else none
def pureF (rc : RunC) (F : AF) (args : List V) (σ : St) : Option (V × St) :=
  (over σ args).bind fun ws => (bodyF rc F ws []).bind fun p => (back p.2 p.1).map fun v => (v, after σ args v)
/-- a call; in a region with a drawn order nothing of the objects goes over to a pure function -/
def callF (T : Nat → Option AF) (pr : Nat → Option (List V → Option V)) (rc : RunC) (strict : Bool) : RunF := fun f args σ =>
  match pr f with
  | some s => if strict && !(refsL args).isEmpty then none else (over σ args).bind fun ws => (s ws).map fun v => (v, after σ args v)
  | none => match T f with
    | none => none
    | some F => match F.thr, F.spec with
      | true, some s => s args σ
      | true, none => bodyF rc F args σ
      | false, none => if strict && !(refsL args).isEmpty then none else pureF rc F args σ
      | false, some _ => none
def isCallv : AO → Bool
  | .callv _ _ => true
  | _ => false
def isCall : AO → Bool
  | .call _ _ | .callv _ _ => true
  | _ => false
def opF (rf : Bool → RunF) (strict : Bool) (op : AO) (e : Env) (σ : St) : Option (V × St) :=
  if isCall op then (if strict && isCallv op then none else (calleeOf e op).bind fun p => rf strict p.1 p.2 σ) else evalOp op e σ
def opsF (rf : Bool → RunF) (strict : Bool) : List AI → Env → St → Option (Env × St)
  | [], e, σ => some (e, σ)
  | i :: l, e, σ => match wantedB e i with
    | some true => (opF rf strict i.op e σ).bind fun p => opsF rf strict l (e.putO i.dst p.1) p.2
    | some false => opsF rf strict l (e.putO i.dst .skp) σ
    | none => none
def boolV : V → Option Bool
  | .bool b => some b
  | _ => none
def stepC (rc : RunC) (rf : Bool → RunF) : RunC := fun k e σ =>
  match k with
  | [] => some (e, σ)
  | .b _ :: k => rc k e σ
  | .l keep c :: k => rc (.c c :: .l keep c :: k) (e.keep keep) σ
  | .c c :: k => match c with
    | .skip => rc k e σ
    | .reg kill ops => (opsF rf false ops e σ).bind fun p => rc k (p.1.del kill) p.2
    | .drw kill _ ops => (opsF rf true ops e σ).bind fun p => rc k (p.1.del kill) p.2
    | .seq a b => rc (.c a :: .c b :: k) e σ
    | .cond c kill x y => (boolV (src e c)).bind fun z => rc (.c (if z then x else y) :: k) (e.del kill) σ
    | .blk id c => rc (.c c :: .b id :: k) e σ
    | .loop keep c => rc (.l keep c :: k) e σ
    | .exit id => (exitTo id k).bind fun k' => rc k' e σ
    | .ret => some (e, σ)
def runC (T : Nat → Option AF) (pr : Nat → Option (List V → Option V)) : Nat → RunC
  | 0 => fun _ _ _ => none
  | n + 1 => stepC (runC T pr n) (callF T pr (runC T pr n))

/-! more steps give no other result -/
def LeC (a b : RunC) : Prop := ∀ k e σ r, a k e σ = some r → b k e σ = some r
def LeF (a b : Bool → RunF) : Prop := ∀ s f vs σ r, a s f vs σ = some r → b s f vs σ = some r
theorem LeC.body {a b : RunC} (h : LeC a b) {F : AF} {vs : List V} {σ : St} {r : V × St} (hr : bodyF a F vs σ = some r) : bodyF b F vs σ = some r := by
  unfold bodyF at hr ⊢
  split at hr
  · rename_i hl
    rw [if_pos hl]
    obtain ⟨p, hp, hr⟩ := Option.bind_eq_some_iff.1 hr
    rw [h _ _ _ _ hp]
    exact hr
  · cases hr
theorem LeC.pure {a b : RunC} (h : LeC a b) {F : AF} {vs : List V} {σ : St} {r : V × St} (hr : pureF a F vs σ = some r) : pureF b F vs σ = some r := by
  unfold pureF at hr ⊢
  obtain ⟨ws, hw, hr⟩ := Option.bind_eq_some_iff.1 hr
  obtain ⟨p, hp, hr⟩ := Option.bind_eq_some_iff.1 hr
  rw [hw, Option.bind_some, h.body hp]
  exact hr
theorem LeC.call {a b : RunC} (h : LeC a b) : LeF (callF T pr a) (callF T pr b) := by
  intro s f vs σ r hr
  unfold callF at hr ⊢
  split at hr
  · exact hr
  · split at hr
    · cases hr
    · split at hr
      · exact hr
      · exact h.body hr
      · split at hr
        · cases hr
        · rename_i hs
          rw [if_neg hs]
          exact h.pure hr
      · cases hr
theorem LeF.op {a b : Bool → RunF} (h : LeF a b) {s : Bool} {op : AO} {e : Env} {σ : St} {r : V × St} (hr : opF a s op e σ = some r) : opF b s op e σ = some r := by
  unfold opF at hr ⊢
  split at hr
  · rename_i hc
    rw [if_pos hc]
    split at hr
    · cases hr
    · rename_i hs
      rw [if_neg hs]
      obtain ⟨p, hp, hr⟩ := Option.bind_eq_some_iff.1 hr
      rw [hp, Option.bind_some]
      exact h _ _ _ _ _ hr
  · rename_i hc
    rw [if_neg hc]
    exact hr
theorem LeF.ops {a b : Bool → RunF} (h : LeF a b) {s : Bool} : ∀ {l : List AI} {e : Env} {σ : St} {r : Env × St}, opsF a s l e σ = some r → opsF b s l e σ = some r
  | [], _, _, _, hr => hr
  | i :: l, e, σ, r, hr => by
    unfold opsF at hr ⊢
    split at hr
    · obtain ⟨p, hp, hr⟩ := Option.bind_eq_some_iff.1 hr
      rw [h.op hp]
      exact h.ops hr
    · exact h.ops hr
    · cases hr
theorem LeC.step {a b : RunC} {fa fb : Bool → RunF} (h : LeC a b) (hf : LeF fa fb) : LeC (stepC a fa) (stepC b fb) := by
  intro k e σ r hr
  unfold stepC at hr ⊢
  split at hr
  · exact hr
  · exact h _ _ _ _ hr
  · exact h _ _ _ _ hr
  · split at hr
    · exact h _ _ _ _ hr
    · obtain ⟨p, hp, hr⟩ := Option.bind_eq_some_iff.1 hr
      rw [hf.ops hp]
      exact h _ _ _ _ hr
    · obtain ⟨p, hp, hr⟩ := Option.bind_eq_some_iff.1 hr
      rw [hf.ops hp]
      exact h _ _ _ _ hr
    · exact h _ _ _ _ hr
    · obtain ⟨p, hp, hr⟩ := Option.bind_eq_some_iff.1 hr
      rw [hp]
      exact h _ _ _ _ hr
    · exact h _ _ _ _ hr
    · exact h _ _ _ _ hr
    · obtain ⟨p, hp, hr⟩ := Option.bind_eq_some_iff.1 hr
      rw [hp]
      exact h _ _ _ _ hr
    · exact hr
theorem run_succ : ∀ n, LeC (runC T pr n) (runC T pr (n + 1))
  | 0 => fun _ _ _ _ h => by cases h
  | n + 1 => (run_succ n).step (run_succ n).call
theorem run_le {n m : Nat} (h : n ≤ m) : LeC (runC T pr n) (runC T pr m) := by
  induction h with
  | refl => exact fun _ _ _ _ h => h
  | step _ ih => exact fun k e σ r hr => run_succ _ _ _ _ _ (ih k e σ r hr)

/-! what the function gives comes of the code -/
def statC (T : Nat → Option AF) (pr : Nat → Option (List V → Option V)) : AC → Bool
  | .drw _ deps ops => statB T pr deps ops
  | .seq a b => statC T pr a && statC T pr b
  | .cond _ _ a b => statC T pr a && statC T pr b
  | .blk _ c => statC T pr c
  | .loop _ c => statC T pr c
  | _ => true
def statI (T : Nat → Option AF) (pr : Nat → Option (List V → Option V)) : It → Bool
  | .c c => statC T pr c
  | .b _ => true
  | .l _ c => statC T pr c
theorem exitTo_stat {id : Nat} : ∀ {k k' : List It}, exitTo id k = some k' → k.all (statI T pr) = true → k'.all (statI T pr) = true
  | [], _, h, _ => by cases h
  | .b i :: k, k', h, hk => by
    simp only [exitTo] at h
    simp only [List.all_cons, Bool.and_eq_true] at hk
    split at h
    · cases h; exact hk.2
    · exact exitTo_stat h hk.2
  | .c c :: k, k', h, hk => by
    simp only [exitTo] at h
    simp only [List.all_cons, Bool.and_eq_true] at hk
    exact exitTo_stat h hk.2
  | .l ks c :: k, k', h, hk => by
    simp only [exitTo] at h
    simp only [List.all_cons, Bool.and_eq_true] at hk
    exact exitTo_stat h hk.2

section
variable (hst : ∀ f F, T f = some F → F.spec = none → statC T pr F.body = true)
theorem leave_ev {n : Nat} {v v' : V} {σ1 σ' : St} (h : leave n v σ1 = some (v', σ')) : (okRes v = true ∧ within n [] v.refs = true ∧ (∀ i ob, i < n → σ1[i]? = some ob → within n [] ob.refs = true) ∧ v' = v ∧ σ' = σ1.take n) ∨ ∃ js, leaveSome n js v σ1 = true ∧ v' = v.ren (ren n js) ∧ σ' = (σ1.take n ++ js.filterMap (σ1[·]?)).map (Ob.ren (ren n js)) := by
  unfold leave at h
  split at h
  · rename_i hn
    cases h
    unfold leaveNone at hn
    simp only [Bool.and_eq_true, List.all_eq_true] at hn
    exact .inl ⟨hn.1, hn.2.1, fun i ob hi ho => hn.2.2 ob (List.mem_of_getElem? (by rw [List.getElem?_take, if_pos hi]; exact ho)), rfl, rfl⟩
  · simp only at h
    split at h
    · rename_i hs
      cases h
      exact .inr ⟨_, hs, rfl, rfl⟩
    · cases h
theorem body_ev {rc : RunC} (ih : ∀ k e σ e' σ', k.all (statI T pr) = true → rc k e σ = some (e', σ') → Ev T pr (.code k e σ e' σ')) {f : Nat} {F : AF} (hT : T f = some F) (hsp : F.spec = none) (hc : statC T pr F.body = true) {vs : List V} {σ σ' : St} {v : V} (h : bodyF rc F vs σ = some (v, σ')) : Ev T pr (.fn f vs σ v σ') := by
  unfold bodyF at h
  split at h
  · rename_i hl
    obtain ⟨⟨e1, σ1⟩, hp, h⟩ := Option.bind_eq_some_iff.1 h
    unfold finF at h
    obtain ⟨v', hv, h⟩ := Option.bind_eq_some_iff.1 h
    have hE := ih _ _ _ _ _ (by simp [statI, hc]) hp
    rcases leave_ev h with ⟨h1, h2, h3, rfl, rfl⟩ | ⟨js, h1, rfl, rfl⟩
    · exact .fn hT hsp hl hE hv h1 h2 (fun i ob hi ho => .inr (h3 i ob hi ho))
    · exact .fnL hT hsp hl hE hv h1
  · cases h
/-- what a call gives -/
inductive CallR (T : Nat → Option AF) (pr : Nat → Option (List V → Option V)) (strict : Bool) (f : Nat) (args : List V) (σ : St) : V → St → Prop
  | prim {s : List V → Option V} {ws : List V} {v : V} : pr f = some s → (strict = true → refsL args = []) → over σ args = some ws → s ws = some v → CallR T pr strict f args σ v (after σ args v)
  | pure {ws : List V} {v : V} : (strict = true → refsL args = []) → over σ args = some ws → Fn T pr f ws v → CallR T pr strict f args σ v (after σ args v)
  | thr {F : AF} {v : V} {σ1 : St} : pr f = none → T f = some F → F.thr = true → F.spec = none → Ev T pr (.fn f args σ v σ1) → CallR T pr strict f args σ v σ1
  | spec {F : AF} {s : List V → St → Option (V × St)} {v : V} {σ1 : St} : pr f = none → T f = some F → F.thr = true → F.spec = some s → s args σ = some (v, σ1) → CallR T pr strict f args σ v σ1
include hst in
theorem call_ev {rc : RunC} (ih : ∀ k e σ e' σ', k.all (statI T pr) = true → rc k e σ = some (e', σ') → Ev T pr (.code k e σ e' σ')) {s : Bool} {f : Nat} {args : List V} {σ σ1 : St} {v : V} (h : callF T pr rc s f args σ = some (v, σ1)) : CallR T pr s f args σ v σ1 := by
  unfold callF at h
  have strict : ∀ {s : Bool}, ¬ ((s && !(refsL args).isEmpty) = true) → s = true → refsL args = [] := fun {s} h1 h2 => by
    subst h2
    simpa using h1
  split at h
  · rename_i q hq
    split at h
    · cases h
    · rename_i hs
      obtain ⟨ws, hx, h⟩ := Option.bind_eq_some_iff.1 h
      obtain ⟨v', hv, h⟩ := Option.map_eq_some_iff.1 h
      cases h
      exact .prim hq (strict hs) hx hv
  · rename_i hq
    split at h
    · cases h
    · rename_i F hT
      split at h
      · rename_i q ht hsp
        exact .spec hq hT ht hsp h
      · rename_i ht hsp
        exact .thr hq hT ht hsp (body_ev ih hT hsp (hst _ _ hT hsp) h)
      · rename_i ht hsp
        split at h
        · cases h
        · rename_i hs
          unfold pureF at h
          obtain ⟨ws, hx, h⟩ := Option.bind_eq_some_iff.1 h
          obtain ⟨⟨v0, σ0⟩, hb, h⟩ := Option.bind_eq_some_iff.1 h
          obtain ⟨v', hv, h⟩ := Option.map_eq_some_iff.1 h
          cases h
          exact .pure (strict hs) hx ⟨F, hT, ht, hsp, v0, σ0, body_ev ih hT hsp (hst _ _ hT hsp) hb, hv⟩
      · cases h
theorem op_call {rf : Bool → RunF} {s : Bool} {op : AO} {e : Env} {σ : St} {r : V × St} (h : opF rf s op e σ = some r) : (isCall op = false ∧ evalOp op e σ = some r) ∨ ∃ f args, calleeOf e op = some (f, args) ∧ rf s f args σ = some r ∧ (s = true → ∃ xs, op = .call f xs ∧ args = xs.map (src e)) := by
  unfold opF at h
  split at h
  · rename_i hc
    split at h
    · cases h
    · rename_i hs
      obtain ⟨⟨f, args⟩, hp, h⟩ := Option.bind_eq_some_iff.1 h
      refine .inr ⟨f, args, hp, h, fun hst => ?_⟩
      subst hst
      cases op with
      | call f' xs =>
        simp only [calleeOf] at hp
        cases hp
        exact ⟨xs, rfl, rfl⟩
      | callv x xs => simp [isCallv] at hs
      | _ => simp [isCall] at hc
  · rename_i hc
    exact .inl ⟨by simpa using hc, h⟩
include hst in
theorem ops_ev {rc : RunC} (ih : ∀ k e σ e' σ', k.all (statI T pr) = true → rc k e σ = some (e', σ') → Ev T pr (.code k e σ e' σ')) : ∀ {l : List AI} {e e' : Env} {σ σ' : St}, opsF (callF T pr rc) false l e σ = some (e', σ') → Ev T pr (.ops l e σ e' σ')
  | [], e, e', σ, σ', h => by cases h; exact .opsNil
  | i :: l, e, e', σ, σ', h => by
    unfold opsF at h
    split at h
    · rename_i hw
      obtain ⟨⟨v, σ1⟩, hp, h⟩ := Option.bind_eq_some_iff.1 h
      have hE := ops_ev ih h
      rcases op_call hp with ⟨_, hv⟩ | ⟨f, args, hc, hf, _⟩
      · exact .opsVal hw hv hE
      · cases call_ev hst ih hf with
        | prim h1 _ h2 h3 => exact .opsPrim hw hc h1 h2 h3 hE
        | pure _ h2 h3 =>
          obtain ⟨F, hT, ht, hsp, v0, σ0, h4, h5⟩ := h3
          exact .opsPure hw hc hT ht hsp h2 h4 h5 hE
        | thr _ hT ht hsp h4 => exact .opsThr hw hc hT ht hsp h4 hE
        | spec _ hT ht hsp h4 => exact .opsSpec hw hc hT ht hsp h4 hE
    · rename_i hw
      exact .opsSkip hw (ops_ev ih h)
    · cases h
include hst in
theorem ops_so {rc : RunC} (ih : ∀ k e σ e' σ', k.all (statI T pr) = true → rc k e σ = some (e', σ') → Ev T pr (.code k e σ e' σ')) : ∀ {l : List AI} {e e' : Env} {σ σ' : St}, opsF (callF T pr rc) true l e σ = some (e', σ') → SO T pr l e σ e' σ'
  | [], e, e', σ, σ', h => by cases h; exact .nil
  | ⟨d, op, g⟩ :: l, e, e', σ, σ', h => by
    unfold opsF at h
    split at h
    · rename_i hw
      obtain ⟨⟨v, σ1⟩, hp, h⟩ := Option.bind_eq_some_iff.1 h
      have hE := ops_so ih h
      refine .cons ?_ hE
      rcases op_call hp with ⟨_, hv⟩ | ⟨f, args, hc, hf, hs⟩
      · exact .val hw hv
      · obtain ⟨xs, hop, rfl⟩ := hs rfl
        simp only at hop
        subst hop
        cases call_ev hst ih hf with
        | prim h1 hn h2 h3 =>
          have hn := hn rfl
          rw [after_nil hn]
          exact .prim hw h1 hn ((over_nil hn _).trans h2) h3
        | pure hn h2 h3 =>
          have hn := hn rfl
          rw [after_nil hn]
          exact .pure hw hn ((over_nil hn _).trans h2) h3
        | thr hq hT ht hsp h4 => exact .thr hw hT ht hsp hq h4
        | spec hq hT ht hsp h4 => exact .spec hw hT ht hsp hq h4
    · rename_i hw
      exact .cons (.off hw) (ops_so ih h)
    · cases h
include hst in
theorem run_ev : ∀ (n : Nat) (k : List It) (e : Env) (σ : St) (e' : Env) (σ' : St), k.all (statI T pr) = true → runC T pr n k e σ = some (e', σ') → Ev T pr (.code k e σ e' σ')
  | 0, _, _, _, _, _, _, h => by cases h
  | n + 1, k, e, σ, e', σ', hk, h => by
    have ih := run_ev n
    simp only [runC] at h
    unfold stepC at h
    split at h
    · cases h; exact .cNil
    · simp only [List.all_cons, Bool.and_eq_true] at hk
      exact .cEnd (ih _ _ _ _ _ hk.2 h)
    · simp only [List.all_cons, Bool.and_eq_true] at hk
      exact .cAgain (ih _ _ _ _ _ (by simp only [List.all_cons, Bool.and_eq_true]; exact ⟨hk.1, hk⟩) h)
    · simp only [List.all_cons, Bool.and_eq_true] at hk
      obtain ⟨hc, hk⟩ := hk
      split at h
      · exact .cSkip (ih _ _ _ _ _ hk h)
      · obtain ⟨⟨e1, σ1⟩, hp, h⟩ := Option.bind_eq_some_iff.1 h
        exact .cReg (ops_ev hst ih hp) (ih _ _ _ _ _ hk h)
      · rename_i kill deps ops
        obtain ⟨⟨e1, σ1⟩, hp, h⟩ := Option.bind_eq_some_iff.1 h
        have hc' : statB T pr deps ops = true := hc
        obtain ⟨E2, h1, h2⟩ := draw_ok (by unfold statB at hc'; simp only [Bool.and_eq_true] at hc'; exact hc'.1) (TE_of hc' ops 0 e σ e1 σ1 [] [] rfl (fun _ _ _ h => by cases h) (fun _ _ _ _ h => by cases h) (ops_so hst ih hp))
        exact .cDrw E2 h1 h2 (ih _ _ _ _ _ hk h)
      · simp only [statI, statC, Bool.and_eq_true] at hc
        exact .cSeq (ih _ _ _ _ _ (by simp only [List.all_cons, Bool.and_eq_true, statI]; exact ⟨hc.1, hc.2, hk⟩) h)
      · obtain ⟨z, hz, h⟩ := Option.bind_eq_some_iff.1 h
        simp only [statI, statC, Bool.and_eq_true] at hc
        refine .cCond (z := z) ?_ (ih _ _ _ _ _ (by simp only [List.all_cons, Bool.and_eq_true, statI]; refine ⟨?_, hk⟩; cases z; exact hc.2; exact hc.1) h)
        unfold boolV at hz
        split at hz
        · rename_i hb; cases hz; exact hb
        · cases hz
      · exact .cBlk (ih _ _ _ _ _ (by simp only [List.all_cons, Bool.and_eq_true, statI]; exact ⟨hc, trivial, hk⟩) h)
      · exact .cLoop (ih _ _ _ _ _ (by simp only [List.all_cons, Bool.and_eq_true, statI]; exact ⟨hc, hk⟩) h)
      · obtain ⟨k', hx, h⟩ := Option.bind_eq_some_iff.1 h
        exact .cExit hx (ih _ _ _ _ _ (exitTo_stat hx hk) h)
      · cases h; exact .cRet
include hst in
/-- A PURE FUNCTION BY A RUN -/
theorem run_fn {n f : Nat} {F : AF} (hT : T f = some F) (ht : F.thr = false) (hsp : F.spec = none) {vs : List V} {v : V} (h : ((bodyF (runC T pr n) F vs []).bind fun p => back p.2 p.1) = some v) : Fn T pr f vs v := by
  obtain ⟨⟨v0, σ0⟩, hb, h⟩ := Option.bind_eq_some_iff.1 h
  exact ⟨F, hT, ht, hsp, v0, σ0, body_ev (fun _ _ _ _ _ hk h => run_ev hst n _ _ _ _ _ hk h) hT hsp (hst _ _ hT hsp) hb, h⟩
end
end Go.Proofs.YticpkkjnajmpoaaGreatDoor.KM
