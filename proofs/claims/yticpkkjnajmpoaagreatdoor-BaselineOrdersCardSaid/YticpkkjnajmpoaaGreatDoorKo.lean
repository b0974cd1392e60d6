/- Code of the plain machine against the program's code: the check. -/
import Derived.Test.YticpkkjnajmpoaaGreatDoorKn
import Derived.Orders
set_option linter.all false
namespace Go.Proofs.YticpkkjnajmpoaaGreatDoor.KM
open Go Go.RowKit

def okCall (P : Program) (G : List (Nat × List V)) (f : Nat) (xs : List S) (op : Op) : Bool :=
  match op with
  | .call { callee := .value (.func f'), args, .. } => f == f' && okSs G xs args.toList
  | _ => false
def okCallv (P : Program) (G : List (Nat × List V)) (s : S) (xs : List S) (op : Op) : Bool :=
  match op with
  | .call { callee := .value x, args, .. } => okS G s x && okSs G xs args.toList
  | _ => false
def okG (n : Nat) (ops : Array Oper) (g : Option (Nat × Bool)) (g' : Option (Nat × Bool)) : Bool :=
  match g, g' with
  | none, none => true
  | some (t, b), some (j, b') => b == b' && ((ops[j]?).bind (·.dst) == some t && decide (t < n))
  | _, _ => false
def okAI (P : Program) (G : List (Nat × List V)) (n : Nat) (ops : Array Oper) (i : AI) (o : Oper) : Bool :=
  i.dst == o.dst && ((match i.dst with
    | some d => decide (d < n)
    | none => true) && (okG n ops i.g o.guard && (match i.op with
    | .call f xs => okCall P G f xs o.op
    | .callv s xs => okCallv P G s xs o.op
    | ao => okOp P G ao o.op)))
def okOps (P : Program) (G : List (Nat × List V)) (n : Nat) (ops : Array Oper) : List AI → List Oper → Bool
  | [], [] => true
  | i :: is, o :: os => okAI P G n ops i o && okOps P G n ops is os
  | _, _ => false
def depOk (d : List Nat) (o : Oper) : Bool := (o.after.toList.all fun e => !Region.binds .any e || d.elem e.on) && d.all fun j => o.after.toList.any fun e => Region.binds .any e && e.on == j
def depsOk : List (List Nat) → List Oper → Bool
  | [], [] => true
  | d :: ds, o :: os => depOk d o && depsOk ds os
  | _, _ => false
def okC (P : Program) (G : List (Nat × List V)) (n : Nat) : AC → Code → Bool
  | .skip, .skip => true
  | .reg _ ais, .region _ ops false => okOps P G n ops ais ops.toList
  | .drw _ deps ais, .region _ ops true => okOps P G n ops ais ops.toList && (depsOk deps ops.toList && P.follows .mixedOrders)
  | .seq x y, .seq c d => okC P G n x c && okC P G n y d
  | .cond s _ x y, .cond c x' y' => okS G s c && (okC P G n x x' && okC P G n y y')
  | .blk i c, .block j c' => i == j && okC P G n c c'
  | .loop _ c, .loop c' => okC P G n c c'
  | .exit i, .exit j => i == j
  | .ret, .ret => true
  | _, _ => false
def okR (P : Program) (n : Nat) : AR → ResultVar → Bool
  | .tmp t, .tmp t' => t == t' && decide (t < n)
  | .cell t k one, .cell t' ty => t == t' && (sizeOk P ty k && undIs P ty fun d => aggB d == !one)
  | _, _ => false
def okRs2 (P : Program) (n : Nat) : List AR → List ResultVar → Bool
  | [], [] => true
  | r :: rs, q :: qs => okR P n r q && okRs2 P n rs qs
  | _, _ => false
/-- a function of the plain machine stands for one of the program -/
def okF (P : Program) (G : List (Nat × List V)) (f : Nat) (F : AF) : Bool :=
  match P.funcs[f]? with
  | some fn => match fn.body with
    | some c => okC P G fn.ntmps F.body c && (okRs2 P fn.ntmps F.res fn.results.toList && (decide (F.pars ≤ fn.ntmps) && fn.name != "runtime.NumGoroutine"))
    | none => false
  | none => false

/-! orders -/
theorem dep_eq {d : List Nat} {o : Oper} (h : depOk d o = true) (listed : Nat → Bool) : (o.after.all fun e => !Region.binds .any e || listed e.on) = d.all listed := by
  simp only [depOk, Bool.and_eq_true, List.all_eq_true, List.any_eq_true, Bool.or_eq_true, Bool.not_eq_true', List.elem_iff, beq_iff_eq] at h
  rw [Bool.eq_iff_iff, Array.all_eq_true', List.all_eq_true]
  constructor
  · intro ha j hj
    obtain ⟨e, he, hb, rfl⟩ := h.2 j hj
    have := ha e (by simpa using he)
    simpa [hb] using this
  · intro hd e he
    rcases h.1 e (by simpa using he) with h' | h'
    · simp [h']
    · simp [hd e.on h']
theorem deps_get : ∀ {deps : List (List Nat)} {os : List Oper}, depsOk deps os = true → deps.length = os.length ∧ ∀ i o, os[i]? = some o → depOk (deps.getD i []) o = true
  | [], [], _ => ⟨rfl, fun i o h => by simp at h⟩
  | d :: ds, o :: os, h => by
    simp only [depsOk, Bool.and_eq_true] at h
    obtain ⟨l, g⟩ := deps_get h.2
    refine ⟨by simp [l], fun i o' ho => ?_⟩
    cases i with
    | zero => simp at ho; subst ho; simpa using h.1
    | succ i => simpa using g i o' (by simpa using ho)
  | [], _ :: _, h => by simp [depsOk] at h
  | _ :: _, [], h => by simp [depsOk] at h
theorem lin_go {deps : List (List Nat)} {ops : Array Oper} (hd : depsOk deps ops.toList = true) : ∀ (fuel t : Nat) (listed : Array Bool) (acc : List Nat), listed.size = ops.size → (∀ i, i < ops.size → listed.getD i true = acc.elem i) → (∀ i, listed.getD i false = true → acc.elem i = true) → (∀ i, acc.elem i = true → i < ops.size) →
    Region.linearise.go .any ops fuel t listed acc = linGo deps fuel t acc
  | 0, _, _, _, _, _, _, _ => rfl
  | fuel + 1, t, listed, acc, hs, h1, h2, h3 => by
    obtain ⟨hl, hg⟩ := deps_get hd
    have hlen : deps.length = ops.size := by simpa using hl
    have hfil : (List.range ops.size).filter (fun i => !listed.getD i true && ((ops[i]?).map (·.after.all fun e => !Region.binds .any e || listed.getD e.on false)).getD false) = (List.range deps.length).filter (readyB deps acc) := by
      rw [hlen]
      apply List.filter_congr
      intro i hi
      have hi' : i < ops.size := by simpa using hi
      have ho : ops[i]? = some ops[i] := Array.getElem?_eq_getElem hi'
      have hdo := hg i ops[i] (by simp [hi'])
      rw [ho, h1 i hi']
      simp only [Option.map_some, Option.getD_some, readyB]
      rw [dep_eq hdo (fun j => listed.getD j false)]
      congr 1
      apply List.all_congr rfl
      intro j
      rw [Bool.eq_iff_iff]
      constructor
      · exact h2 j
      · intro hj
        have hjl := h3 j hj
        have := h1 j hjl
        rw [hj] at this
        simpa [Array.getD_eq_getD_getElem?, show j < listed.size by omega] using this
    unfold Region.linearise.go linGo
    simp only [hfil]
    split
    · rename_i i hi
      have hmem : i ∈ (List.range deps.length).filter (readyB deps acc) := List.mem_of_getElem? hi
      have hi' : i < ops.size := by
        have := (List.mem_filter.1 hmem).1
        rw [hlen] at this
        simpa using this
      rw [hi]
      refine lin_go hd fuel _ _ (i :: acc) (by simpa using hs) (fun j hj => ?_) (fun j hj => ?_) (fun j hj => ?_)
      · by_cases hij : i = j
        · subst hij; simp [Array.getD_eq_getD_getElem?, hs, hi']
        · have := h1 j hj
          have hji : (j == i) = false := by simp; omega
          simp only [Array.getD_eq_getD_getElem?, Array.getElem?_setIfInBounds, hij, if_false] at this ⊢
          rw [this]
          simp only [List.elem, hji]
      · by_cases hij : i = j
        · subst hij; simp
        · simp only [Array.getD_eq_getD_getElem?, Array.getElem?_setIfInBounds, hij, if_false] at hj
          have := List.elem_iff.1 (h2 j (by simpa [Array.getD_eq_getD_getElem?] using hj))
          exact List.elem_iff.2 (List.mem_cons_of_mem _ this)
      · rcases List.mem_cons.1 (List.elem_iff.1 hj) with rfl | hj
        · exact hi'
        · exact h3 j (List.elem_iff.2 hj)
    · rename_i hi
      rw [hi]
theorem lin_eq {deps : List (List Nat)} {ops : Array Oper} (hd : depsOk deps ops.toList = true) (t : Nat) : Region.linearise .any ops t = lin deps t := by
  unfold Region.linearise lin
  have hlen : deps.length = ops.size := by simpa using (deps_get hd).1
  rw [hlen]
  refine lin_go hd _ _ _ _ (by simp) (fun i hi => ?_) (fun i hi => ?_) (fun i hi => ?_)
  · simp [Array.getD_eq_getD_getElem?, hi]
  · by_cases h : i < ops.size
    · simp [Array.getD_eq_getD_getElem?, h] at hi
    · simp [Array.getD_eq_getD_getElem?, h] at hi
  · simp at hi
end Go.Proofs.YticpkkjnajmpoaaGreatDoor.KM
