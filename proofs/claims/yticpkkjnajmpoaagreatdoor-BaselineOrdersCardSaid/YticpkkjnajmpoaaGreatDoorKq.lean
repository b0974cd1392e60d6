/- THE PLAIN MACHINE IS RIGHT. -/
import Derived.Test.YticpkkjnajmpoaaGreatDoorKp
set_option linter.all false
namespace Go.Proofs.YticpkkjnajmpoaaGreatDoor.KM
open Go Go.RowKit
variable {P : Program} {G : List (Nat × List V)} {T : Nat → Option AF} {pr : Nat → Option (List V → Option V)}

/-- what stretches of code leave -/
def Leaves (G : List (Nat × List V)) (N n : Nat) (γ : Gh) (σ : St) (w : World) (e' : Env) (σ' : St) (a' : Act) (w' : World) : Prop :=
  ∃ γ', RepE γ' w' e' a'.tmps ∧ Inv G N γ' σ' w' ∧ Ext γ w γ' w' ∧ Below N w w' ∧ (∀ b, b < N → γ'.κ b = γ.κ b) ∧ a'.tmps.size = n ∧ a'.defers = []
theorem Leaves.after {N n : Nat} {γ γ1 : Gh} {σ σ1 σ' : St} {w w1 w' : World} {e' : Env} {a' : Act} (hx : Ext γ w γ1 w1) (hb : Below N w w1) (hk : ∀ b, b < N → γ1.κ b = γ.κ b) (h : Leaves G N n γ1 σ1 w1 e' σ' a' w') : Leaves G N n γ σ w e' σ' a' w' := by
  obtain ⟨γ', h1, h2, h3, h4, h5, h6⟩ := h
  exact ⟨γ', h1, h2, hx.trans h3, hb.trans h4, fun b hb => (h5 b hb).trans (hk b hb), h6⟩

inductive MK (P : Program) (G : List (Nat × List V)) (n : Nat) : List It → List Item → Prop
  | nil : MK P G n [] []
  | c {ac : AC} {c : Code} {k : List It} {todo : List Item} : okC P G n ac c = true → MK P G n k todo → MK P G n (.c ac :: k) (.code c :: todo)
  | b {id : Nat} {k : List It} {todo : List Item} : MK P G n k todo → MK P G n (.b id :: k) (.inBlock id :: todo)
  | l {keep : List Nat} {ac : AC} {c : Code} {k : List It} {todo : List Item} : okC P G n ac c = true → MK P G n k todo → MK P G n (.l keep ac :: k) (.inLoop c :: todo)
  | l' {keep : List Nat} {ac : AC} {c : Code} {k : List It} {todo : List Item} : okC P G n ac c = true → MK P G n k todo → MK P G n (.l keep ac :: k) (.code (.loop c) :: todo)
theorem MK.exit {n id : Nat} {k : List It} {todo : List Item} (h : MK P G n k todo) : ∀ {k' : List It}, exitTo id k = some k' → ∃ todo', Go.exitTo id todo = some todo' ∧ MK P G n k' todo' := by
  induction h with
  | nil => intro k' h; simp [exitTo] at h
  | c _ _ ih => intro k' h; simp only [exitTo] at h; simpa [Go.exitTo] using ih h
  | b hk ih =>
    intro k' h
    simp only [exitTo] at h
    split at h
    · rename_i he
      cases h
      exact ⟨_, by simp [Go.exitTo, he], hk⟩
    · rename_i he
      obtain ⟨t, h1, h2⟩ := ih h
      exact ⟨t, by simp [Go.exitTo, he, h1], h2⟩
  | l _ _ ih => intro k' h; simp only [exitTo] at h; simpa [Go.exitTo] using ih h
  | l' _ _ ih => intro k' h; simp only [exitTo] at h; simpa [Go.exitTo] using ih h

/-- operations, in the order of L -/
def ML (P : Program) (G : List (Nat × List V)) (n : Nat) (ops : Array Oper) : List AI → List Nat → Prop
  | [], [] => True
  | i :: is, j :: js => (∃ o, ops[j]? = some o ∧ okAI P G n ops i o = true) ∧ ML P G n ops is js
  | _, _ => False

/-- what is shown of a judgement -/
def Shown (P : Program) (G : List (Nat × List V)) : J → Prop
  | .ops l e σ e' σ' => ∀ (n : Nat) (ops : Array Oper) (L : List Nat) (a : Act) (w : World) (γ : Gh) (N : Nat) (Q : Exit → Act → World → Prop), ML P G n ops l L → a.tmps.size = n → a.defers = [] → RepE γ w e a.tmps → Inv G N γ σ w →
      (∀ a' w', Leaves G N n γ σ w e' σ' a' w' → Q .normal a' w') → wpOps P ops Q L a w
  | .code k e σ e' σ' => ∀ (n : Nat) (todo : List Item) (a : Act) (w : World) (γ : Gh) (N : Nat), MK P G n k todo → a.tmps.size = n → a.defers = [] → RepE γ w e a.tmps → Inv G N γ σ w → ∀ (b : Frame) (cs : List Frame),
      ∃ a' w' todo', Steps P (lone (b.at a todo) cs w) (lone { b.at a' todo' with mode := .returning } cs w') ∧ Leaves G N n γ σ w e' σ' a' w'
  | .fn f args σ v σ' => ∀ (us : List Value) (w : World) (γ : Gh) (N : Nat), args.length = us.length → (∀ j, j < args.length → RepV γ w (args.getD j .und) (us.getD j undef)) → Inv G N γ σ w →
      Calls P f us.toArray w fun e w' => ∃ u γ', e = .returned u ∧ RepV γ' w' v u ∧ Inv G N γ' σ' w' ∧ Ext γ w γ' w' ∧ Below N w w' ∧ ∀ b, b < N → γ'.κ b = γ.κ b

theorem wanted_eq {n : Nat} {ops : Array Oper} {i : AI} {o : Oper} {γ : Gh} {w : World} {e : Env} {a : Act} {z : Bool} (hg : okG n ops i.g o.guard = true) (ha : a.tmps.size = n) (hE : RepE γ w e a.tmps) (h : wantedB e i = some z) : Region.wanted o (yielded ops a.tmps) = z := by
  unfold okG at hg
  unfold wantedB at h
  unfold Region.wanted
  split at hg
  · rename_i h1 h2
    rw [h1] at h
    rw [h2]
    simpa using h
  · rename_i t b j b' h1 h2
    simp only [Bool.and_eq_true, beq_iff_eq, decide_eq_true_eq] at hg
    obtain ⟨rfl, hd, ht⟩ := hg
    rw [h1] at h
    rw [h2]
    simp only at h ⊢
    have hrep := hE t
    have hy : a.tmps[t]? = some (a.tmps.getD t undef) := by
      rw [Array.getD_eq_getD_getElem?, Array.getElem?_eq_getElem (by omega)]; rfl
    split at h
    · rename_i z' e1
      rw [e1] at hrep
      have := repC_bool (repV_cell rfl hrep)
      cases h
      simp only [yielded, hd, Option.bind_some, hy, this]
      cases z' <;> cases b <;> rfl
    · rename_i e1
      rw [e1] at hrep
      cases h
      have : a.tmps.getD t undef = undef := by
        generalize a.tmps.getD t undef = u at hrep
        cases hrep with
        | skp => rfl
        | one h => cases h with | cell h => exact absurd (repC_none h).1 (by simp [V.cellB])
      simp only [yielded, hd, Option.bind_some, hy, this]
      cases b <;> rfl
    · cases h
  · cases hg

theorem put_rep {n : Nat} {γ : Gh} {w : World} {e : Env} {a : Act} {d : Option Nat} {v : V} {u : Value} (hd : (match d with | some d => decide (d < n) | none => true) = true) (ha : a.tmps.size = n) (hE : RepE γ w e a.tmps) (hv : RepV γ w v u) :
    RepE γ w (e.putO d v) (a.put d u).tmps ∧ (a.put d u).tmps.size = n ∧ (a.put d u).defers = a.defers := by
  cases d with
  | none => exact ⟨hE, ha, rfl⟩
  | some d =>
    simp only [decide_eq_true_eq] at hd
    exact ⟨hE.put (by omega) hv, by simp [Act.put, ha], rfl⟩

theorem okCall_eq {f : Nat} {xs : List S} {op : Op} (h : okCall P G f xs op = true) : ∃ args ts, op = .call { callee := .value (.func f), args, argTypes := ts } ∧ okSs G xs args.toList = true := by
  unfold okCall at h
  split at h
  · simp only [Bool.and_eq_true, beq_iff_eq] at h
    obtain ⟨rfl, h⟩ := h
    exact ⟨_, _, rfl, h⟩
  · cases h

theorem okF_some {f : Nat} {F : AF} (h : okF P G f F = true) : ∃ fn c, P.funcs[f]? = some fn ∧ fn.body = some c ∧ okC P G fn.ntmps F.body c = true ∧ okRs2 P fn.ntmps F.res fn.results.toList = true ∧ F.pars ≤ fn.ntmps ∧ fn.name ≠ "runtime.NumGoroutine" := by
  unfold okF at h
  split at h
  · rename_i fn hf
    split at h
    · rename_i c hc
      simp only [Bool.and_eq_true, decide_eq_true_eq] at h
      obtain ⟨h1, h2, h3, h4⟩ := h
      exact ⟨fn, c, hf, hc, h1, h2, h3, by simpa using h4⟩
    · cases h
  · cases h

theorem rep1_of {γ : Gh} {w : World} {v : V} {u : Value} (h : okRes1 v = true) (hr : RepV γ w v u) : Rep1 γ w v u := by
  cases hr with
  | und => simp [okRes1, V.cellB] at h
  | skp => simp [okRes1, V.cellB] at h
  | one h => exact h
  | tup => simp [okRes1, V.cellB] at h

def resSem (tm : Array Value) : ResultVar → Sem Value
  | .tmp t => pure (tm.getD t undef)
  | .cell a t => do loadVar t (← asAddr (tm.getD a undef))
theorem run_res {n : Nat} {N : Nat} {γ : Gh} {σ : St} {w : World} {e : Env} {tm : Array Value} (hE : RepE γ w e tm) (hI : Inv G N γ σ w) : ∀ {rs : List AR} {qs : List ResultVar} {vs : List V}, okRs2 P n rs qs = true → rs.mapM (resOne e σ) = some vs →
    ∃ us : List Value, (qs.mapM (resSem tm)).run P w = .ok us w ∧ vs.length = us.length ∧ us.length = qs.length ∧ ∀ j, j < vs.length → RepV γ w (vs.getD j .und) (us.getD j undef)
  | [], [], vs, _, h => by
    simp at h
    subst h
    exact ⟨[], by simp, rfl, rfl, fun j hj => absurd hj (by simp)⟩
  | r :: rs, q :: qs, vs, hok, h => by
    simp only [okRs2, Bool.and_eq_true] at hok
    rw [List.mapM_cons] at h
    cases h1 : resOne e σ r with
    | none => simp [h1] at h
    | some v =>
      cases h2 : rs.mapM (resOne e σ) with
      | none => simp [h1, h2] at h
      | some vs' =>
        simp [h1, h2] at h
        subst h
        obtain ⟨us, g1, g2, g2', g3⟩ := run_res hE hI hok.2 h2
        have key : ∃ u, (resSem tm q).run P w = .ok u w ∧ RepV γ w v u := by
          have hr := hok.1
          unfold okR at hr
          split at hr
          · rename_i t t'
            simp only [Bool.and_eq_true, beq_iff_eq] at hr
            obtain ⟨rfl, _⟩ := hr
            simp only [resOne] at h1
            cases h1
            exact ⟨tm.getD t undef, rfl, hE t⟩
          · rename_i t k one t' ty
            simp only [Bool.and_eq_true, beq_iff_eq] at hr
            obtain ⟨rfl, hr1, hr2⟩ := hr
            obtain ⟨fi, i1, i2⟩ := sizeOk_some hr1
            obtain ⟨d, hd, hs⟩ := undIs_some hr2
            simp only [resOne] at h1
            obtain ⟨b, p, cs, f, hu, k1, k2, k3, k4⟩ := cells_at hI (hE t) h1
            obtain ⟨m1, m2⟩ := mkOne_rep k1 k2 k4
            have hl := run_loadVar (P := P) (w := w) hd (eq_of_beq hs) i1 i2 (fun h => (m1 h).1) k3
            refine ⟨if one then f 0 else .agg ((List.range k).map f).toArray, by simp only [resSem, hu, asAddr, Sem.run_bind, Sem.run_pure, Result.andThen_ok, hl], ?_⟩
            cases one with
            | true => exact repV_of (m1 rfl).2
            | false => exact .one (m2 rfl)
          · cases hr
        obtain ⟨u, hu, hv⟩ := key
        refine ⟨u :: us, by simp [List.mapM_cons, hu, g1], by simp [g2], by simp [g2'], fun j hj => ?_⟩
        cases j with
        | zero => exact hv
        | succ j => simpa using g3 j (by simpa using hj)
  | [], _ :: _, _, h, _ => by simp [okRs2] at h
  | _ :: _, [], _, h, _ => by simp [okRs2] at h

theorem ML.tail {n : Nat} {ops : Array Oper} {i : AI} {is : List AI} {L : List Nat} (h : ML P G n ops (i :: is) L) : ∃ j js o, L = j :: js ∧ ops[j]? = some o ∧ okAI P G n ops i o = true ∧ ML P G n ops is js := by
  cases L with
  | nil => exact h.elim
  | cons j js => obtain ⟨⟨o, h1, h2⟩, h3⟩ := h; exact ⟨j, js, o, rfl, h1, h2, h3⟩

/-- an operation of a list, its guard said yes -/
theorem wp_on {n : Nat} {ops : Array Oper} {o : Oper} {j : Nat} {js : List Nat} {a : Act} {w : World} {Q : Exit → Act → World → Prop} (ho : ops[j]? = some o) (hw : Region.wanted o (yielded ops a.tmps) = true) (h : o.wp P a w (wpOps P ops Q js) Q) : wpOps P ops Q (j :: js) a w := by
  simp only [wpOps, ho, hw, if_true]
  exact .inl h
theorem wp_off {ops : Array Oper} {o : Oper} {j : Nat} {js : List Nat} {a : Act} {w : World} {Q : Exit → Act → World → Prop} (ho : ops[j]? = some o) (hw : Region.wanted o (yielded ops a.tmps) = false) (h : wpOps P ops Q js (a.put o.dst undef) w) : wpOps P ops Q (j :: js) a w := by
  simp only [wpOps, ho, hw]
  simpa using h

theorem okAI_split {n : Nat} {ops : Array Oper} {i : AI} {o : Oper} (h : okAI P G n ops i o = true) : i.dst = o.dst ∧ (match i.dst with | some d => decide (d < n) | none => true) = true ∧ okG n ops i.g o.guard = true ∧ (match i.op with | .call f xs => okCall P G f xs o.op | .callv s xs => okCallv P G s xs o.op | ao => okOp P G ao o.op) = true := by
  unfold okAI at h
  simp only [Bool.and_eq_true, beq_iff_eq] at h
  exact ⟨h.1, h.2.1, h.2.2.1, h.2.2.2⟩

theorem run_callee {f : FuncId} {fn : Func} {c : Code} {args : Array Value} {w : World} (hf : P.funcs[f]? = some fn) (hb : fn.body = some c) (hn : fn.name ≠ "runtime.NumGoroutine") : (callFunc f args).run P w = .ok (.enter f args) w := by
  have hn' : (fn.name == "runtime.NumGoroutine") = false := by simpa using hn
  simp [callFunc, program, Sem.run, hf, hb, hn]
theorem run_call {a : Act} {o : Oper} {w : World} {f : FuncId} {fn : Func} {c : Code} {args : Array Operand} {ts : Array TypeId} (ho : o.op = .call { callee := .value (.func f), args, argTypes := ts }) (hf : P.funcs[f]? = some fn) (hb : fn.body = some c) (hn : fn.name ≠ "runtime.NumGoroutine") :
    (execOp a.eval o).run P w = .ok (.enter f (args.map a.eval)) w := by
  have := run_callee (P := P) (args := args.map a.eval) (w := w) hf hb hn
  simp [execOp, ho, resolve, Deferred.ofValue, Act.eval, invoke, this]
theorem run_callv {a : Act} {o : Oper} {w : World} {f : FuncId} {fn : Func} {c : Code} {x : Operand} {args : Array Operand} {ts : Array TypeId} {ua uc : Array Value} (ho : o.op = .call { callee := .value x, args, argTypes := ts }) (hx : a.eval x = .func (.func f) ua uc) (hf : P.funcs[f]? = some fn) (hb : fn.body = some c) (hn : fn.name ≠ "runtime.NumGoroutine") :
    (execOp a.eval o).run P w = .ok (.enter f (ua ++ args.map a.eval ++ uc)) w := by
  have := run_callee (P := P) (args := ua ++ args.map a.eval ++ uc) (w := w) hf hb hn
  simp only [Array.append_assoc] at this ⊢
  simp [execOp, ho, resolve, Deferred.ofValue, hx, invoke, this]
theorem okCallv_eq {s : S} {xs : List S} {op : Op} (h : okCallv P G s xs op = true) : ∃ x args ts, op = .call { callee := .value x, args, argTypes := ts } ∧ okS G s x = true ∧ okSs G xs args.toList = true := by
  unfold okCallv at h
  split at h
  · simp only [Bool.and_eq_true] at h
    exact ⟨_, _, _, rfl, h.1, h.2⟩
  · cases h
theorem arr_map (args : Array Operand) (f : Operand → Value) : args.map f = (args.toList.map f).toArray := by
  have := (args.map f).toArray_toList
  rw [Array.toList_map] at this
  exact this.symm

/-- lists of values, one behind the other -/
theorem reps_app {γ : Gh} {w : World} {vs vs' : List V} {us us' : List Value} (h : vs.length = us.length ∧ ∀ j, j < vs.length → RepV γ w (vs.getD j .und) (us.getD j undef)) (h' : vs'.length = us'.length ∧ ∀ j, j < vs'.length → RepV γ w (vs'.getD j .und) (us'.getD j undef)) :
    (vs ++ vs').length = (us ++ us').length ∧ ∀ j, j < (vs ++ vs').length → RepV γ w ((vs ++ vs').getD j .und) ((us ++ us').getD j undef) := by
  refine ⟨by simp [h.1, h'.1], fun j hj => ?_⟩
  simp only [List.getD_eq_getElem?_getD]
  by_cases hl : j < vs.length
  · rw [List.getElem?_append_left hl, List.getElem?_append_left (by rw [← h.1]; exact hl)]
    simpa [List.getD_eq_getElem?_getD] using h.2 j hl
  · rw [List.getElem?_append_right (by omega), List.getElem?_append_right (by rw [← h.1]; omega), ← h.1]
    have := h'.2 (j - vs.length) (by simp at hj; omega)
    simpa [List.getD_eq_getElem?_getD] using this
/-- A CALL: which function is entered with what -/
theorem call_enter {n N : Nat} {γ : Gh} {σ : St} {w : World} {e : Env} {a : Act} {ops : Array Oper} {i : AI} {o : Oper} {f : Nat} {vs : List V} {fn : Func} {c : Code} (hok : (match i.op with | .call f xs => okCall P G f xs o.op | .callv s xs => okCallv P G s xs o.op | ao => okOp P G ao o.op) = true) (hc : calleeOf e i.op = some (f, vs)) (hE : RepE γ w e a.tmps) (hI : Inv G N γ σ w)
    (hf : P.funcs[f]? = some fn) (hb : fn.body = some c) (hn : fn.name ≠ "runtime.NumGoroutine") :
    ∃ us : List Value, (execOp a.eval o).run P w = .ok (.enter f us.toArray) w ∧ vs.length = us.length ∧ ∀ j, j < vs.length → RepV γ w (vs.getD j .und) (us.getD j undef) := by
  have args : ∀ {xs : List S} {os : Array Operand}, okSs G xs os.toList = true → (xs.map (src e)).length = (os.toList.map a.eval).length ∧ ∀ j, j < (xs.map (src e)).length → RepV γ w ((xs.map (src e)).getD j .und) ((os.toList.map a.eval).getD j undef) := fun {xs os} hss => by
    obtain ⟨l1, g1⟩ := okSs_rep (a := a) hE hI hss
    refine ⟨by simpa using l1, fun j hj => ?_⟩
    have hjx : j < xs.length := by simpa using hj
    have hja : j < os.toList.length := by omega
    have := g1 j xs[j] os.toList[j] (List.getElem?_eq_getElem hjx) (List.getElem?_eq_getElem hja)
    rw [show (xs.map (src e)).getD j .und = src e xs[j] by simp [List.getD_eq_getElem?_getD, hjx], show (os.toList.map a.eval).getD j undef = a.eval os.toList[j] by rw [List.getD_eq_getElem?_getD, List.getElem?_map, List.getElem?_eq_getElem hja]; rfl]
    exact this
  generalize i.op = op at hok hc
  cases op with
  | call f' xs =>
    simp only [calleeOf] at hc
    cases hc
    obtain ⟨os, ts, hop, hss⟩ := okCall_eq hok
    refine ⟨os.toList.map a.eval, ?_, args hss⟩
    rw [run_call hop hf hb hn, arr_map]
  | callv s xs =>
    simp only [calleeOf] at hc
    split at hc
    · rename_i f' as cs hs
      cases hc
      obtain ⟨x, os, ts, hop, h1, hss⟩ := okCallv_eq hok
      have hr := okS_rep (a := a) h1 hE hI
      rw [hs] at hr
      obtain ⟨ua, uc, hu, hla, hlc, hra, hrc⟩ := repC_fn (repV_cell rfl hr)
      refine ⟨ua ++ os.toList.map a.eval ++ uc, ?_, reps_app (reps_app ⟨hla, fun j hj => repV_of (hra j hj)⟩ (args hss)) ⟨hlc, fun j hj => repV_of (hrc j hj)⟩⟩
      rw [run_callv hop hu hf hb hn, arr_map]
      simp
    · cases hc
  | _ => simp [calleeOf] at hc
end Go.Proofs.YticpkkjnajmpoaaGreatDoor.KM
