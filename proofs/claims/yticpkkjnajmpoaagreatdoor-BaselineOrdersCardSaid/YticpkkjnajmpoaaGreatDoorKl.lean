/- Comparisons, function values, maps (second form). -/
import Derived.Test.YticpkkjnajmpoaaGreatDoorKk
import Derived.Laws.StructEq
set_option linter.all false
namespace Go.Proofs.YticpkkjnajmpoaaGreatDoor.KM
open Go Go.RowKit
variable {P : Program} {G : List (Nat × List V)} {N : Nat} {γ : Gh} {σ σ1 : St} {w : World} {e : Env} {a : Act} {o : Oper} {v : V}

theorem run_equal_bool {t : TypeId} (ht : P.underlying t = some .bool) (p q : Bool) : (Op.equal t (.bool p) (.bool q)).run P w = .ok (p == q) w :=
  have h : ∀ d, (Op.equalIn (d + 1) t (.bool p) (.bool q)).run P w = .ok (p == q) w := fun d => by simp [Op.equalIn, run_underlying ht]
  h 9999
theorem run_equal_slice1 {t el : TypeId} (ht : P.underlying t = some (.slice el)) (n c : Nat) (b : Option Addr) (n' c' : Nat) : (Op.equal t (.slice none n c) (.slice b n' c')).run P w = .ok b.isNone w :=
  have h : ∀ d, (Op.equalIn (d + 1) t (.slice none n c) (.slice b n' c')).run P w = .ok b.isNone w := fun d => by simp [Op.equalIn, run_underlying ht]
  h 9999
theorem run_equal_slice2 {t el : TypeId} (ht : P.underlying t = some (.slice el)) (n c : Nat) (b : Addr) (n' c' : Nat) : (Op.equal t (.slice (some b) n' c') (.slice none n c)).run P w = .ok false w :=
  have h : ∀ d, (Op.equalIn (d + 1) t (.slice (some b) n' c') (.slice none n c)).run P w = .ok false w := fun d => by simp [Op.equalIn, run_underlying ht]
  h 9999
theorem run_equal_ptr1 {t el : TypeId} (ht : P.underlying t = some (.pointer el)) (b : Option Addr) : (Op.equal t (.pointer none) (.pointer b)).run P w = .ok b.isNone w :=
  have h : ∀ d, (Op.equalIn (d + 1) t (.pointer none) (.pointer b)).run P w = .ok b.isNone w := fun d => by simp [Op.equalIn, run_underlying ht]
  h 9999
theorem run_equal_ptr2 {t el : TypeId} (ht : P.underlying t = some (.pointer el)) (b : Addr) : (Op.equal t (.pointer (some b)) (.pointer none)).run P w = .ok false w :=
  have h : ∀ d, (Op.equalIn (d + 1) t (.pointer (some b)) (.pointer none)).run P w = .ok false w := fun d => by simp [Op.equalIn, run_underlying ht]
  h 9999

theorem eq_lift {neg : Bool} {t ty : TypeId} {x y : Operand} {z : Bool} (ho : o.op = .binOp (if neg then .neq else .eql) t x y ty) (hg : (eqGuard (if neg then .neq else .eql) t x y (a.eval x) (a.eval y)).run P w = .ok () w)
    (hb : (binOp .eql t (a.eval x) (a.eval y)) = (do pure (.bool (← Op.equal t (a.eval x) (a.eval y))))) (hb' : (binOp .neq t (a.eval x) (a.eval y)) = (do pure (.bool (!(← Op.equal t (a.eval x) (a.eval y))))))
    (hr : (Op.equal t (a.eval x) (a.eval y)).run P w = .ok z w) : (execOp a.eval o).run P w = .ok (.value (.bool (z != neg))) w := by
  cases neg
  · simp only [Bool.false_eq_true, if_false] at ho hg
    simp [execOp, ho, hg, hb, hr]
  · simp only [if_true] at ho hg
    simp [execOp, ho, hg, hb', hr]

/-- fields of one cell each, one behind the other -/
def oneTy (P : Program) (t : TypeId) (k : Nat) : Bool := match P.underlying t, k with
  | some .bool, 0 | some (.int _), 1 | some .string, 2 => true
  | _, _ => false
def okFlat (P : Program) : List Field → Nat → List Nat → Bool
  | [], _, [] => true
  | f :: fs, k, c :: ks => f.offset == k && (f.name != "_" && (oneTy P f.type c && okFlat P fs (k + 1) ks))
  | _, _, _ => false
theorem part_one {t : TypeId} {c : Nat} (h : oneTy P t c = true) {us : Array Value} {k : Nat} {u : Value} (hu : us[k]? = some u) : (part t us k).run P w = .ok u w := by
  unfold oneTy at h
  have key : ∀ d, P.underlying t = some d → aggB d = false → (part t us k).run P w = .ok u w := fun d hd ha => by
    have := run_isAgg (P := P) (w := w) hd
    rw [ha] at this
    simp [part, this, hu]
  split at h
  · rename_i hd; exact key _ hd rfl
  · rename_i hd; exact key _ hd rfl
  · rename_i hd; exact key _ hd rfl
  · cases h
theorem eq_cell {t : TypeId} {c : Nat} (h : oneTy P t c = true) {x y : V} {z : Bool} {u u' : Value} (hu : RepC γ w x u) (hu' : RepC γ w y u') (hz : eqS c x y = some z) (d : Nat) : (Op.equalIn (d + 1) t u u').run P w = .ok z w := by
  unfold oneTy at h
  unfold eqS at hz
  split at hz
  · cases hz
    rw [repC_bool hu, repC_bool hu']
    split at h
    · rename_i hd _; simp [Op.equalIn, run_underlying hd]
    · rename_i hc; cases hc
    · rename_i hc; cases hc
    · cases h
  · split at hz
    · rename_i hk
      subst hk
      cases hz
      rw [repC_int hu, repC_int hu']
      split at h
      · rename_i hc; cases hc
      · rename_i hd _; simp [Op.equalIn, run_underlying hd]
      · rename_i hc; cases hc
      · cases h
    · cases hz
  · rename_i l l'
    cases hz
    rw [(repC_str hu).1, (repC_str hu').1]
    split at h
    · rename_i hc; cases hc
    · rename_i hc; cases hc
    · rename_i hd _
      simp only [Op.equalIn, run_underlying hd, Sem.run_bind, Result.andThen_ok, Sem.run_pure, beq_toListBytes, ByteArray.toList_eq]
    · cases h
  · cases hz
theorem eq_fields {d : Nat} : ∀ {fs : List Field} {k : Nat} {ks : List Nat} {as bs : List V} {us vs : Array Value} {z : Bool}, okFlat P fs k ks = true → eqRow ks as bs = some z → (∀ j, j < ks.length → ∃ u, us[k + j]? = some u ∧ RepC γ w (as.getD j .und) u) → (∀ j, j < ks.length → ∃ u, vs[k + j]? = some u ∧ RepC γ w (bs.getD j .und) u) →
    (Op.eqFields (d + 1) us vs fs).run P w = .ok z w
  | [], k, [], as, bs, us, vs, z, _, h, _, _ => by
    cases as <;> cases bs <;> simp [eqRow] at h
    subst h
    rfl
  | f :: fs, k, c :: ks, as, bs, us, vs, z, hok, h, ha, hb => by
    simp only [okFlat, Bool.and_eq_true, beq_iff_eq, bne_iff_ne] at hok
    obtain ⟨h1, h2, h3, h4⟩ := hok
    cases as with
    | nil => simp [eqRow] at h
    | cons x r =>
    cases bs with
    | nil => simp [eqRow] at h
    | cons y s =>
    obtain ⟨u, hu, hru⟩ := ha 0 (by simp)
    obtain ⟨u', hu', hru'⟩ := hb 0 (by simp)
    simp only [eqRow, Option.bind_eq_some_iff] at h
    obtain ⟨z1, hz1, h⟩ := h
    have e1 := eq_cell (P := P) h3 hru hru' hz1 d
    have p1 := part_one (P := P) (w := w) h3 (us := us) (k := f.offset) (by rw [h1]; exact hu)
    have p2 := part_one (P := P) (w := w) h3 (us := vs) (k := f.offset) (by rw [h1]; exact hu')
    unfold Op.eqFields
    simp only [ne_eq, h2, not_false_eq_true, if_true, Sem.run_bind, p1, p2, Result.andThen_ok, e1]
    cases z1 with
    | false =>
      simp at h
      subst h
      simp
    | true =>
      simp only [if_true] at h
      have ih := eq_fields (d := d) (us := us) (vs := vs) h4 h (fun j hj => by
        have := ha (j + 1) (by simpa using hj)
        rw [show k + (j + 1) = k + 1 + j by omega] at this
        simpa using this) (fun j hj => by
        have := hb (j + 1) (by simpa using hj)
        rw [show k + (j + 1) = k + 1 + j by omega] at this
        simpa using this)
      simp [ih]
  | [], _, _ :: _, _, _, _, _, _, h, _, _, _ => by simp [okFlat] at h
  | _ :: _, _, [], _, _, _, _, _, h, _, _, _ => by simp [okFlat] at h

def isConst : Operand → Bool
  | .const _ => true
  | _ => false
def okEq (P : Program) (k : EqK) (t : TypeId) (x y : Operand) : Bool :=
  match k, P.underlying t with
  | .bool, some .bool => true
  | .nilsl, some (.slice _) => true
  | .nilpt, some (.pointer _) => true
  | .nilfn, some (.func _ _ _) => true
  | .nilif, some (.interface _) => isConst x || isConst y
  | .flat ks, some (.struct fs) => okFlat P fs.toList 0 ks && (!P.stoodInHeld t && !P.eqGuardType P.depth t)
  | _, _ => false

theorem sim_eq {k : EqK} {neg : Bool} {t ty : TypeId} {x y : Operand} {s1 s2 : S} (ho : o.op = .binOp (if neg then .neq else .eql) t x y ty) (hk : okEq P k t x y = true) (hx : RepV γ w (src e s1) (a.eval x)) (hy : RepV γ w (src e s2) (a.eval y)) (hI : Inv G N γ σ w)
    (h : evalOp (.eq k neg s1 s2) e σ = some (v, σ1)) : OpOk P G N γ σ w ((execOp a.eval o).run P w) v σ1 := by
  simp only [evalOp, Option.map_eq_some_iff] at h
  obtain ⟨z, h, h2⟩ := h
  · cases h2
    have slice2 : ∀ b n c b' n' c', a.eval x = .slice b n c → a.eval y = .slice b' n' c' → (Op.equal t (.slice b n c) (.slice b' n' c')).run P w = .ok z w → OpOk P G N γ σ w ((execOp a.eval o).run P w) (.bool (z != neg)) σ := fun b n c b' n' c' hx' hy' hr => by
      refine ok_pure hI (eq_lift (z := z) ho ?_ ?_ ?_ ?_) bool_rep <;> rw [hx', hy']
      · cases neg <;> simp [eqGuard]
      · rfl
      · rfl
      · exact hr
    have ptr2 : ∀ b b', a.eval x = .pointer b → a.eval y = .pointer b' → (Op.equal t (.pointer b) (.pointer b')).run P w = .ok z w → OpOk P G N γ σ w ((execOp a.eval o).run P w) (.bool (z != neg)) σ := fun b b' hx' hy' hr => by
      refine ok_pure hI (eq_lift (z := z) ho ?_ ?_ ?_ ?_) bool_rep <;> rw [hx', hy']
      · cases neg <;> simp [eqGuard]
      · rfl
      · rfl
      · exact hr
    have slx : ∀ {s : S} {X : Value} {i g off len m : Nat} {own : Bool}, src e s = .sl i g off len m own → RepV γ w (src e s) X → ∃ ad cap, X = .slice (some ad) len cap := fun {s X i g off len m own} e1 hX => by
      rw [e1] at hX
      obtain ⟨b', o', cap, _, _, hu, _⟩ := repC_sl (repV_cell rfl hX)
      exact ⟨_, _, hu⟩
    have ptx : ∀ {s : S} {X : Value} {i g off : Nat}, src e s = .ptr i g off → RepV γ w (src e s) X → ∃ ad, X = .pointer (some ad) := fun {s X i g off} e1 hX => by
      rw [e1] at hX
      obtain ⟨b', _, _, hu, _⟩ := repC_ptr (repV_cell rfl hX)
      exact ⟨_, hu⟩
    unfold okEq at hk
    split at hk
    · rename_i ht
      simp only [eqV] at h
      unfold eqB at h
      split at h
      · rename_i p q e1 e2
        rw [e1] at hx
        rw [e2] at hy
        have hx' := repC_bool (repV_cell rfl hx)
        have hy' := repC_bool (repV_cell rfl hy)
        cases h
        refine ok_pure hI (eq_lift (z := p == q) ho ?_ ?_ ?_ ?_) bool_rep <;> rw [hx', hy']
        · cases neg <;> simp [eqGuard]
        · rfl
        · rfl
        · exact run_equal_bool ht p q
      · cases h
    · rename_i el ht
      simp only [eqV] at h
      unfold eqSl at h
      split at h
      · rename_i e1 e2
        rw [e1] at hx
        rw [e2] at hy
        cases h
        exact slice2 _ _ _ _ _ _ (repC_nils (repV_cell rfl hx)) (repC_nils (repV_cell rfl hy)) (run_equal_slice1 ht _ _ _ _ _)
      · rename_i e1 e2
        rw [e1] at hx
        rw [e2] at hy
        obtain ⟨ad, cap, hu, _⟩ := repC_lst (repV_cell rfl hy)
        cases h
        exact slice2 _ _ _ _ _ _ (repC_nils (repV_cell rfl hx)) hu (run_equal_slice1 ht _ _ _ _ _)
      · rename_i e1 e2
        rw [e1] at hx
        rw [e2] at hy
        obtain ⟨ad, cap, hu, _⟩ := repC_lst (repV_cell rfl hx)
        cases h
        exact slice2 _ _ _ _ _ _ hu (repC_nils (repV_cell rfl hy)) (run_equal_slice2 ht _ _ _ _ _)
      · rename_i e1 e2
        obtain ⟨ad, cap, hu⟩ := slx e2 hy
        rw [e1] at hx
        cases h
        exact slice2 _ _ _ _ _ _ (repC_nils (repV_cell rfl hx)) hu (run_equal_slice1 ht _ _ _ _ _)
      · rename_i e1 e2
        obtain ⟨ad, cap, hu⟩ := slx e1 hx
        rw [e2] at hy
        cases h
        exact slice2 _ _ _ _ _ _ hu (repC_nils (repV_cell rfl hy)) (run_equal_slice2 ht _ _ _ _ _)
      · cases h
    · rename_i el ht
      simp only [eqV] at h
      unfold eqPt at h
      split at h
      · rename_i e1 e2
        rw [e1] at hx
        rw [e2] at hy
        cases h
        exact ptr2 _ _ (repC_nilp (repV_cell rfl hx)) (repC_nilp (repV_cell rfl hy)) (run_equal_ptr1 ht _)
      · rename_i e1 e2
        obtain ⟨ad, hu⟩ := ptx e2 hy
        rw [e1] at hx
        cases h
        exact ptr2 _ _ (repC_nilp (repV_cell rfl hx)) hu (run_equal_ptr1 ht _)
      · rename_i e1 e2
        obtain ⟨ad, hu⟩ := ptx e1 hx
        rw [e2] at hy
        cases h
        exact ptr2 _ _ hu (repC_nilp (repV_cell rfl hy)) (run_equal_ptr2 ht _)
      · rename_i e1 e2
        rw [e1] at hx
        rw [e2] at hy
        obtain ⟨_, _, _, _, hu, _⟩ := repC_imm (repV_cell rfl hy)
        cases h
        exact ptr2 _ _ (repC_nilp (repV_cell rfl hx)) hu (run_equal_ptr1 ht _)
      · rename_i e1 e2
        rw [e1] at hx
        rw [e2] at hy
        obtain ⟨_, _, _, _, hu, _⟩ := repC_imm (repV_cell rfl hx)
        cases h
        exact ptr2 _ _ hu (repC_nilp (repV_cell rfl hy)) (run_equal_ptr2 ht _)
      · cases h
    · rename_i ps rs va ht
      have hfn : ∀ d, (Op.equalIn (d + 1) t .nilFunc .nilFunc).run P w = .ok true w := fun d => by simp [Op.equalIn, run_underlying ht]
      have hfn1 : ∀ d f p q, (Op.equalIn (d + 1) t (.func f p q) .nilFunc).run P w = .ok false w := fun d f p q => by simp [Op.equalIn, run_underlying ht]
      have hfn2 : ∀ d f p q, (Op.equalIn (d + 1) t .nilFunc (.func f p q)).run P w = .ok false w := fun d f p q => by simp [Op.equalIn, run_underlying ht]
      have fin : ∀ X Y, a.eval x = X → a.eval y = Y → (eqGuard (if neg then .neq else .eql) t x y X Y).run P w = .ok () w → (binOp .eql t X Y) = (do pure (.bool (← Op.equal t X Y))) → (binOp .neq t X Y) = (do pure (.bool (!(← Op.equal t X Y)))) → (Op.equal t X Y).run P w = .ok z w → OpOk P G N γ σ w ((execOp a.eval o).run P w) (.bool (z != neg)) σ := fun X Y hx' hy' q1 q2 q3 q4 => by
        subst hx' hy'
        exact ok_pure hI (eq_lift (z := z) ho q1 q2 q3 q4) bool_rep
      simp only [eqV] at h
      unfold eqFn at h
      split at h
      · rename_i e1 e2
        rw [e1] at hx
        rw [e2] at hy
        cases h
        exact fin _ _ (repC_nilf (repV_cell rfl hx)) (repC_nilf (repV_cell rfl hy)) (by cases neg <;> simp [eqGuard]) rfl rfl (hfn 9999)
      · rename_i e1 e2
        rw [e1] at hx
        rw [e2] at hy
        obtain ⟨ua, uc, hu, _⟩ := repC_fn (repV_cell rfl hx)
        cases h
        exact fin _ _ hu (repC_nilf (repV_cell rfl hy)) (by cases neg <;> simp [eqGuard]) rfl rfl (hfn1 9999 _ _ _)
      · rename_i e1 e2
        rw [e1] at hx
        rw [e2] at hy
        obtain ⟨ua, uc, hu, _⟩ := repC_fn (repV_cell rfl hy)
        cases h
        exact fin _ _ (repC_nilf (repV_cell rfl hx)) hu (by cases neg <;> simp [eqGuard]) rfl rfl (hfn2 9999 _ _ _)
      · cases h
    · rename_i ms ht
      have hin : ∀ d, (Op.equalIn (d + 1) t .nilIface .nilIface).run P w = .ok true w := fun d => by simp [Op.equalIn, run_underlying ht]
      have hin1 : ∀ d f p, (Op.equalIn (d + 1) t (.iface f p) .nilIface).run P w = .ok false w := fun d f p => by simp [Op.equalIn, run_underlying ht]
      have hin2 : ∀ d f p, (Op.equalIn (d + 1) t .nilIface (.iface f p)).run P w = .ok false w := fun d f p => by simp [Op.equalIn, run_underlying ht]
      have fin : ∀ X Y, a.eval x = X → a.eval y = Y → (eqGuard (if neg then .neq else .eql) t x y X Y).run P w = .ok () w → (binOp .eql t X Y) = (do pure (.bool (← Op.equal t X Y))) → (binOp .neq t X Y) = (do pure (.bool (!(← Op.equal t X Y)))) → (Op.equal t X Y).run P w = .ok z w → OpOk P G N γ σ w ((execOp a.eval o).run P w) (.bool (z != neg)) σ := fun X Y hx' hy' q1 q2 q3 q4 => by
        subst hx' hy'
        exact ok_pure hI (eq_lift (z := z) ho q1 q2 q3 q4) bool_rep
      have hguard : (eqGuard (if neg then .neq else .eql) t x y .nilIface .nilIface).run P w = .ok () w := by
        simp only [Bool.or_eq_true] at hk
        rcases hk with hk | hk
        · cases x <;> simp [isConst] at hk
          cases neg <;> simp [eqGuard]
        · cases y <;> simp [isConst] at hk
          cases neg <;> simp [eqGuard]
      simp only [eqV] at h
      unfold eqIf at h
      split at h
      · rename_i e1 e2
        rw [e1] at hx
        rw [e2] at hy
        cases h
        exact fin _ _ (repC_nili (repV_cell rfl hx)) (repC_nili (repV_cell rfl hy)) hguard rfl rfl (hin 9999)
      · rename_i e1 e2
        rw [e1] at hx
        rw [e2] at hy
        obtain ⟨ut, ux, hu⟩ := repC_ifc (repV_cell rfl hx)
        cases h
        exact fin _ _ hu (repC_nili (repV_cell rfl hy)) (by cases neg <;> simp [eqGuard]) rfl rfl (hin1 9999 _ _)
      · rename_i e1 e2
        rw [e1] at hx
        rw [e2] at hy
        obtain ⟨ut, ux, hu⟩ := repC_ifc (repV_cell rfl hy)
        cases h
        exact fin _ _ (repC_nili (repV_cell rfl hx)) hu (by cases neg <;> simp [eqGuard]) rfl rfl (hin2 9999 _ _)
      · cases h
    · rename_i ks fs ht
      simp only [Bool.and_eq_true, Bool.not_eq_true'] at hk
      obtain ⟨hk1, hk2, hk3⟩ := hk
      simp only [eqV] at h
      unfold eqFl at h
      split at h
      · rename_i as bs e1 e2
        rw [e1] at hx
        rw [e2] at hy
        obtain ⟨us, hu, hul, hur⟩ := repV_agg hx
        obtain ⟨vs, hv, hvl, hvr⟩ := repV_agg hy
        split at h
        · rename_i hlen
          have hfo : P.fieldsOf t = fs := by simp [Program.fieldsOf, ht]
          have hf := eq_fields (P := P) (γ := γ) (w := w) (d := 9998) (us := us.toArray) (vs := vs.toArray) hk1 h (fun j hj => by
            have hj1 : j < as.length := by omega
            have := hur j hj1
            exact ⟨us.getD j undef, by simp [List.getD_eq_getElem?_getD, show j < us.length by omega], this⟩) (fun j hj => by
            have hj1 : j < bs.length := by omega
            have := hvr j hj1
            exact ⟨vs.getD j undef, by simp [List.getD_eq_getElem?_getD, show j < vs.length by omega], this⟩)
          have hE := run_equalIn_struct (P := P) w 9999 t us.toArray vs.toArray (by rw [hfo]; exact ht) hk2
          rw [hfo, hf] at hE
          have hg := run_eqGuard_agg (P := P) w (if neg then .neq else .eql) t x y us.toArray vs.toArray hk3
          refine ok_pure hI (u := .bool (z != neg)) ?_ bool_rep
          cases neg
          · simp only [Bool.false_eq_true, if_false] at ho hg
            simp [execOp, ho, hu, hv, hg, run_eql_struct, hE]
          · simp only [if_true] at ho hg
            simp [execOp, ho, hu, hv, hg, run_neq_struct, hE]
        · cases h
      · cases h
    · cases hk

/-- a function value -/
theorem sim_mkf {f : Nat} {first captured : Array Operand} {as cs : List S} (ho : o.op = .makeFunc (.func f) first captured) (ha : as.length = first.toList.length ∧ ∀ (i : Nat) s x, as[i]? = some s → first.toList[i]? = some x → RepV γ w (src e s) (a.eval x)) (hc : cs.length = captured.toList.length ∧ ∀ (i : Nat) s x, cs[i]? = some s → captured.toList[i]? = some x → RepV γ w (src e s) (a.eval x)) (hI : Inv G N γ σ w)
    (h : evalOp (.mkf f as cs) e σ = some (v, σ1)) : OpOk P G N γ σ w ((execOp a.eval o).run P w) v σ1 := by
  simp only [evalOp] at h
  split at h
  · rename_i hcell
    simp only [Bool.and_eq_true] at hcell
    cases h
    have key : ∀ {ss : List S} {xs : List Operand}, (ss.length = xs.length ∧ ∀ (i : Nat) s x, ss[i]? = some s → xs[i]? = some x → RepV γ w (src e s) (a.eval x)) → (ss.map (src e)).all V.cellB = true → (ss.map (src e)).length = (xs.map a.eval).length ∧ ∀ j, j < (ss.map (src e)).length → RepC γ w ((ss.map (src e)).getD j .und) ((xs.map a.eval).getD j undef) := fun {ss xs} hs hcc => by
      refine ⟨by simp [hs.1], fun j hj => ?_⟩
      have hj1 : j < ss.length := by simpa using hj
      have hj2 : j < xs.length := by omega
      have e1 : (ss.map (src e)).getD j .und = src e ss[j] := by simp [List.getD_eq_getElem?_getD, hj1]
      have e2 : (xs.map a.eval).getD j undef = a.eval xs[j] := by rw [List.getD_eq_getElem?_getD, List.getElem?_map, List.getElem?_eq_getElem hj2]; rfl
      rw [e1, e2]
      exact repV_cell (List.all_eq_true.1 hcc _ (by simp only [List.mem_map]; exact ⟨ss[j], List.getElem_mem hj1, rfl⟩)) (hs.2 j _ _ (List.getElem?_eq_getElem hj1) (List.getElem?_eq_getElem hj2))
    obtain ⟨a1, a2⟩ := key ha hcell.1
    obtain ⟨c1, c2⟩ := key hc hcell.2
    refine ok_pure hI (u := .func (.func f) (first.toList.map a.eval).toArray (captured.toList.map a.eval).toArray) ?_ (repV_of (.fn a1 c1 a2 c2))
    have e1 : (first.toList.map a.eval).toArray = first.map a.eval := by apply Array.toList_inj.1; simp
    have e2 : (captured.toList.map a.eval).toArray = captured.map a.eval := by apply Array.toList_inj.1; simp
    rw [e1, e2]
    simp [execOp, ho, Instr.makeFunc]
  · cases h
end Go.Proofs.YticpkkjnajmpoaaGreatDoor.KM
