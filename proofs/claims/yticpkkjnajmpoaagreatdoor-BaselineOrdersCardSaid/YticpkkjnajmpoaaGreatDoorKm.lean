/- Maps by strings (second form). -/
import Derived.Test.YticpkkjnajmpoaaGreatDoorKl
set_option linter.all false
namespace Go.Proofs.YticpkkjnajmpoaaGreatDoor.KM
open Go Go.RowKit
variable {P : Program} {G : List (Nat × List V)} {N : Nat} {γ : Gh} {σ σ1 : St} {w : World} {e : Env} {a : Act} {o : Oper} {v : V}

theorem sim_mmk {t : TypeId} (ho : o.op = .makeMap t none) (hI : Inv G N γ σ w) (h : evalOp .mmk e σ = some (v, σ1)) : OpOk P G N γ σ w ((execOp a.eval o).run P w) v σ1 := by
  simp only [evalOp] at h
  cases h
  obtain ⟨i1, i2⟩ := hI.newMap
  refine ⟨.map (some w.heap.size), _, _, .inl ?_, repV_of (.mp (g' := 0) ?_ rfl (fun _ => rfl)), i1, i2, below_alloc hI.base, fun _ _ => rfl⟩
  · simp [execOp, ho, Instr.makeMap, newObj, Sem.run]
  · show (γ.O ++ [(w.heap.size, 0)])[σ.length]? = _
    rw [← hI.len]; simp

/-- what is found -/
theorem find_now {s : List UInt8} : ∀ {kvs : List (List UInt8 × V)} {es : List MapEntry} {i : Nat}, es.length = kvs.length → (∀ (j : Nat) (k : List UInt8) (v : V), kvs[j]? = some (k, v) → ∃ en : MapEntry, es[j]? = some en ∧ en.key = .string ⟨k.toArray⟩ ∧ RepC γ w v en.val) →
    (findK s kvs i = none ∧ Instr.findNow .string (.string ⟨s.toArray⟩) es i = some none) ∨ ∃ j v en, findK s kvs i = some (i + j, v) ∧ kvs[j]? = some (s, v) ∧ es[j]? = some en ∧ Instr.findNow .string (.string ⟨s.toArray⟩) es i = some (some (i + j, en.val)) ∧ RepC γ w v en.val
  | [], [], i, _, _ => .inl ⟨rfl, rfl⟩
  | [], _ :: _, _, h, _ => by simp at h
  | _ :: _, [], _, h, _ => by simp at h
  | (k, v) :: kvs, en :: es, i, hl, hr => by
    obtain ⟨en', h1, h2, h3⟩ := hr 0 k v rfl
    simp at h1
    subst h1
    have hb : ((⟨s.toArray⟩ : ByteArray) == ⟨k.toArray⟩) = (s == k) := by
      rw [beq_toListBytes, ByteArray.toList_eq, ByteArray.toList_eq]
    by_cases hk : k = s
    · subst hk
      refine .inr ⟨0, v, en, by simp [findK], rfl, rfl, ?_, h3⟩
      simp only [Instr.findNow, h2, Instr.sameNow, hb, beq_self_eq_true, Nat.add_zero]
    · have hkb : (s == k) = false := by simpa using fun h => hk h.symm
      have ih := find_now (s := s) (kvs := kvs) (es := es) (i := i + 1) (by simpa using hl) (fun j k' v' hj => by simpa using hr (j + 1) k' v' (by simpa using hj))
      have hf : findK s ((k, v) :: kvs) i = findK s kvs (i + 1) := by simp [findK, hk]
      have hn : Instr.findNow .string (.string ⟨s.toArray⟩) (en :: es) i = Instr.findNow .string (.string ⟨s.toArray⟩) es (i + 1) := by
        simp only [Instr.findNow, h2, Instr.sameNow, hb, hkb]
      rw [hf, hn]
      rcases ih with ⟨a1, a2⟩ | ⟨j, v', en', a1, a2, a3, a4, a5⟩
      · exact .inl ⟨a1, a2⟩
      · refine .inr ⟨j + 1, v', en', ?_, by simpa using a2, by simpa using a3, ?_, a5⟩
        · rw [a1]; congr 2; omega
        · rw [a4]; congr 3; omega

theorem flat_rep {v : V} {u : Value} (hf : v.flatB = true) (h : RepC γ w v u) (γ' : Gh) (w' : World) : RepC γ' w' v u := by
  cases h with
  | row h => cases h with
    | bool => exact .row .bool
    | int => exact .row .int
    | str h => exact .row (.str h)
    | nili => exact .row .nili
    | ifc => exact .row .ifc
    | nils => exact .row .nils
    | lst => cases hf
  | nilp => exact .nilp
  | nilf => exact .nilf
  | ifc => exact .ifc
  | imm => cases hf
  | ptr => cases hf
  | sl => cases hf
  | fn => cases hf
  | mp => cases hf
theorem run_findKey {kt : TypeId} {k : Value} {l : List MapEntry} {r : Option (Nat × Value)} (hd : P.underlying kt = some .string) (h : Instr.findNow .string k l 0 = some r) : (Instr.findKey kt k l).run P w = .ok r w := by
  simp [Instr.findKey, run_underlying hd, Result.andThen, h]
def setO (w : World) (r : Nat) (o : Obj) : World := { w with heap := w.heap.setIfInBounds r o }
theorem run_setObj {r : Nat} {es : Array MapEntry} {clock : Nat} (o : Obj) (hb : w.heap[r]? = some (.map es clock)) : (setObj r o).run P w = .ok () (setO w r o) := by
  simp [setObj, Sem.run, hb, setO]

theorem sim_mlk {t kt et : TypeId} {fi : TypeInfo} {z : Value} {zv : V} {x y : Operand} {s1 s2 : S} (ho : o.op = .lookup t x y false) (ht : P.underlying t = some (.map kt et)) (hk : P.underlying kt = some .string) (hfi : P.info? et = some fi) (hz : fi.zero = some z) (hc : constB zv z = true)
    (hx : RepV γ w (src e s1) (a.eval x)) (hy : RepV γ w (src e s2) (a.eval y)) (hI : Inv G N γ σ w) (h : evalOp (.mlk zv s1 s2) e σ = some (v, σ1)) : OpOk P G N γ σ w ((execOp a.eval o).run P w) v σ1 := by
  simp only [evalOp] at h
  split at h
  · rename_i i s e1 e2
    rw [e1] at hx
    rw [e2] at hy
    obtain ⟨hy', _⟩ := repC_str (repV_cell rfl hy)
    obtain ⟨blk, g', hO, hu⟩ := repC_mp (repV_cell rfl hx)
    split at h
    · rename_i kvs hkv
      cases h
      obtain ⟨hg0, _, es, hh, hes, hent⟩ := hI.obj i _ _ hkv hO
      have hx' := hu hg0
      have hh : w.heap[blk]? = some (.map es kvs.length) := hh
      have hchk : ∀ b, (Instr.checkKey b 10000 kt (.string ⟨s.toArray⟩)).run P w = .ok () w := fun b => by
        have : ∀ d, (Instr.checkKey b (d + 1) kt (.string ⟨s.toArray⟩)).run P w = .ok () w := fun d => by simp [Instr.checkKey, run_underlying hk]
        exact this 9999
      rcases find_now (γ := γ) (w := w) (s := s) (kvs := kvs) (es := es.toList) (i := 0) (by simpa using hes) (fun j k v hj => by
        obtain ⟨en, a1, a2, _, _, _, a6⟩ := hent j k v hj
        exact ⟨en, by simpa using a1, a2, a6⟩) with ⟨f1, f2⟩ | ⟨j, v', en, f1, f2, f3, f4, f5⟩
      · have hf := run_findKey (P := P) (w := w) hk f2
        rw [f1]
        refine ok_pure hI (u := z) ?_ (repV_of (constB_rep hc))
        simp [execOp, ho, hx', hy', Instr.lookup, run_underlying ht, getObj, Sem.run, hh]
        simp [hchk, hf, zeroValue, typeInfo, hfi, hz]
      · have hf := run_findKey (P := P) (w := w) hk f4
        rw [f1]
        refine ok_pure hI (u := en.val) ?_ (repV_of f5)
        simp [execOp, ho, hx', hy', Instr.lookup, run_underlying ht, getObj, Sem.run, hh]
        simp [hchk, hf]
    · cases h
  · cases h

theorem sim_mup {t kt et : TypeId} {x y z : Operand} {s1 s2 s3 : S} (ho : o.op = .mapUpdate t x y z) (ht : P.underlying t = some (.map kt et)) (hk : P.underlying kt = some .string)
    (hx : RepV γ w (src e s1) (a.eval x)) (hy : RepV γ w (src e s2) (a.eval y)) (hz : RepV γ w (src e s3) (a.eval z)) (hI : Inv G N γ σ w) (h : evalOp (.mup s1 s2 s3) e σ = some (v, σ1)) : OpOk P G N γ σ w ((execOp a.eval o).run P w) v σ1 := by
  simp only [evalOp] at h
  split at h
  · rename_i i s e1 e2
    rw [e1] at hx
    rw [e2] at hy
    obtain ⟨hy', hsl⟩ := repC_str (repV_cell rfl hy)
    obtain ⟨blk, g', hO, hu⟩ := repC_mp (repV_cell rfl hx)
    split at h
    · rename_i kvs hkv
      split at h
      · rename_i hflat
        cases h
        have hzc : RepC γ w (src e s3) (a.eval z) := repV_cell (by revert hflat; cases src e s3 <;> simp [V.flatB, V.cellB]) hz
        obtain ⟨hg0, _, es, hh, hes, hent⟩ := hI.obj i _ _ hkv hO
        have hx' := hu hg0
        have hh : w.heap[blk]? = some (.map es kvs.length) := hh
        have hlt : blk < w.heap.size := (Array.getElem?_eq_some_iff.1 hh).1
        have hchk : ∀ b, (Instr.checkKey b 10000 kt (.string ⟨s.toArray⟩)).run P w = .ok () w := fun b => by
          have : ∀ d, (Instr.checkKey b (d + 1) kt (.string ⟨s.toArray⟩)).run P w = .ok () w := fun d => by simp [Instr.checkKey, run_underlying hk]
          exact this 9999
        have hset : ∀ ob, (setO w blk ob).heap.size = w.heap.size ∧ (∀ b, b ≠ blk → (setO w blk ob).heap[b]? = w.heap[b]?) ∧ (setO w blk ob).heap[blk]? = some ob := fun ob => by
          refine ⟨by simp [setO], fun b hb => by simp [setO, Array.getElem?_setIfInBounds, Ne.symm hb], by simp [setO, hlt]⟩
        rcases find_now (γ := γ) (w := w) (s := s) (kvs := kvs) (es := es.toList) (i := 0) (by simpa using hes) (fun j k v hj => by
          obtain ⟨en, a1, a2, _, _, _, a6⟩ := hent j k v hj
          exact ⟨en, by simpa using a1, a2, a6⟩) with ⟨f1, f2⟩ | ⟨j, v', en, f1, f2, f3, f4, f5⟩
        · have hf := run_findKey (P := P) (w := w) hk f2
          rw [f1]
          obtain ⟨q1, q2, q3⟩ := hset (.map (es.push { key := .string ⟨s.toArray⟩, val := a.eval z, born := kvs.length }) (kvs.length + 1))
          obtain ⟨i1, i2⟩ := hI.turnMap (kvs' := kvs ++ [(s, src e s3)]) (es' := es.push { key := .string ⟨s.toArray⟩, val := a.eval z, born := kvs.length }) hO hkv q1 q2 (by rw [q3]; simp) (by simp [hes]) (fun j k v hj => by
            by_cases hj2 : j < kvs.length
            · rw [List.getElem?_append_left hj2] at hj
              obtain ⟨en, a1, a2⟩ := hent j k v hj
              exact ⟨en, by rw [Array.getElem?_push_lt (by omega)]; simpa [show j < es.size by omega] using a1, a2⟩
            · rw [List.getElem?_append_right (by omega)] at hj
              have hj3 : j = kvs.length := by
                have := (List.getElem?_eq_some_iff.1 hj).1
                simp at this; omega
              subst hj3
              simp at hj
              obtain ⟨rfl, rfl⟩ := hj
              exact ⟨{ key := .string ⟨s.toArray⟩, val := a.eval z, born := kvs.length }, by rw [show kvs.length = es.size from hes.symm]; simp, rfl, hsl, rfl, hflat, hzc⟩)
          refine ⟨undef, _, γ, .inr ⟨?_, rfl⟩, .und, i1, i2, ⟨rfl, rfl, rfl, by rw [q1]; exact Nat.le_refl _, fun k hk => q2 k (by have := hI.low i _ hO; have : N ≤ blk := this; omega)⟩, fun _ _ => rfl⟩
          simp [execOp, ho, hx', hy', Instr.mapUpdate, run_underlying ht, getObj, Sem.run, hh]
          simp [hchk, hf, run_setObj _ hh]
        · have hf := run_findKey (P := P) (w := w) hk f4
          rw [f1]
          have hjl : j < kvs.length := (List.getElem?_eq_some_iff.1 f2).1
          obtain ⟨en0, b1, b2, b3, b4, b5, b6⟩ := hent j s v' f2
          have hen : en0 = en := by
            have : es.toList[j]? = some en0 := by simpa using b1
            rw [f3] at this
            cases this; rfl
          subst hen
          obtain ⟨q1, q2, q3⟩ := hset (.map (es.modify j fun en => { en with key := .string ⟨s.toArray⟩, val := a.eval z }) kvs.length)
          obtain ⟨i1, i2⟩ := hI.turnMap (kvs' := kvs.set j (s, src e s3)) (es' := es.modify j fun en => { en with key := .string ⟨s.toArray⟩, val := a.eval z }) hO hkv q1 q2 (by rw [q3]; simp) (by simp [hes]) (fun j' k v hj => by
            by_cases hjj : j = j'
            · subst hjj
              rw [List.getElem?_set_self hjl] at hj
              cases hj
              exact ⟨{ en0 with key := .string ⟨s.toArray⟩, val := a.eval z }, by simp [Array.getElem?_modify, b1], rfl, hsl, b4, hflat, hzc⟩
            · rw [List.getElem?_set_ne hjj] at hj
              obtain ⟨en, a1, a2⟩ := hent j' k v hj
              exact ⟨en, by simp [Array.getElem?_modify, hjj, a1], a2⟩)
          have f0 : 0 + j = j := Nat.zero_add j
          rw [f0] at hf
          simp only [f0]
          refine ⟨undef, _, γ, .inr ⟨?_, rfl⟩, .und, i1, i2, ⟨rfl, rfl, rfl, by rw [q1]; exact Nat.le_refl _, fun k hk => q2 k (by have := hI.low i _ hO; have : N ≤ blk := this; omega)⟩, fun _ _ => rfl⟩
          have hkts : (Instr.keyThatStays (((es[j]?).map (·.key)).getD (.string ⟨s.toArray⟩)) (.string ⟨s.toArray⟩)).run P w = .ok (.string ⟨s.toArray⟩) w := by
            rw [b1]
            have hsame : Instr.sameBits 10000 (.string ⟨s.toArray⟩) (.string ⟨s.toArray⟩) = true := by
              rw [Instr.sameBits]
              rw [beq_toListBytes]; simp
            simp [b2, Instr.keyThatStays, hsame]
          simp [execOp, ho, hx', hy', Instr.mapUpdate, run_underlying ht, getObj, Sem.run, hh]
          simp [hchk, hf, hkts, run_setObj _ hh]
      · cases h
    · cases h
  · cases h
end Go.Proofs.YticpkkjnajmpoaaGreatDoor.KM
