/- Literals of slices, cuts, comparisons. -/
import Derived.Test.YticpkkjnajmpoaaGreatDoorKg
import Derived.Lib.Strings
import Derived.Lib.Hide
import Derived.Lib.ConvBytes
import Derived.Laws.MakeOwn
set_option linter.all false
namespace Go.Proofs.YticpkkjnajmpoaaGreatDoor.KM
open Go Go.RowKit
variable {P : Program} {G : List (Nat × List V)} {N : Nat} {γ : Gh} {σ σ1 : St} {w : World} {e : Env} {a : Act} {o : Oper} {v : V}

theorem rep_flat {α : Type} (zs : List α) (d : α) (hm : 0 < zs.length) : ∀ (n j : Nat), j < n * zs.length → ((List.replicate n zs).flatten).getD j d = zs.getD (j % zs.length) d
  | 0, j, h => by omega
  | n + 1, j, h => by
    rw [List.replicate_succ, List.flatten_cons]
    by_cases hj : j < zs.length
    · rw [Nat.mod_eq_of_lt hj]
      simp only [List.getD_eq_getElem?_getD, List.getElem?_append_left hj]
    · have := rep_flat zs d hm n (j - zs.length) (by rw [Nat.succ_mul] at h; omega)
      simp only [List.getD_eq_getElem?_getD, List.getElem?_append_right (Nat.le_of_not_lt hj)] at this ⊢
      rw [this, Nat.mod_eq_sub_mod (Nat.le_of_not_lt hj)]
theorem rep_flat_len {α : Type} (zs : List α) (n : Nat) : ((List.replicate n zs).flatten).length = n * zs.length := by
  induction n with
  | zero => simp
  | succ n ih => rw [List.replicate_succ, List.flatten_cons, List.length_append, ih, Nat.succ_mul]; omega

theorem cell_new (w : World) (us : Array Value) (el : TypeId) (k : Nat) : (w.alloc (.cells us el)).cell? ⟨w.heap.size, k, none⟩ = us[k]? := by
  unfold World.cell?
  rw [show (w.alloc (.cells us el)).heap[(⟨w.heap.size, k, none⟩ : Addr).block]? = some (.cells us el) from heap_alloc_new w _]
  rfl
/-- a new row of settled cells is a full slice -/
theorem row_ok {us : Array Value} {cs : List V} {n m : Nat} {el : TypeId} {r : Result Next} {js : List Nat} {κ' : Kap} (hI : Inv G N ⟨κ', γ.O⟩ (σ.freeze js) w) (hx : Ext γ w ⟨κ', γ.O⟩ w) (hkN : ∀ b, b < N → κ' b = γ.κ b) (hm : 0 < m) (hn : n ≤ maxLen) (hl : cs.length = n * m) (hs : us.size = n * m) (hr : ∀ j, j < n * m → RepR κ' w (cs.getD j .und) (us.toList.getD j undef))
    (h : r = .ok (.value (.slice (some ⟨w.heap.size, 0, none⟩) n n)) (w.alloc (.cells us el))) : OpOk P G N γ σ w r (.lst 1 (chop m n cs)) (σ.freeze js) := by
  obtain ⟨i1, i2⟩ := hI.row us el
  have hlen := chop_len m n cs
  refine ⟨_, _, _, .inl h, ?_, i1, hx.trans i2, below_alloc hI.base, fun b hb => (kset_other _ _ (by have := hI.base; omega)).trans (hkN b hb)⟩
  refine repV_of (.row ?_)
  have key := RepR.lst (κ := kset κ' w.heap.size us.size) (w := w.alloc (.cells us el)) (t := 1) (xs := chop m n cs) (a := ⟨w.heap.size, 0, none⟩) (cap := n) (m := m) (fun i j => us.toList.getD (i * m + j) undef) (fun _ => hlen.symm) (by omega) hn
    (fun _ => ⟨rfl, us.size, kset_self _ _ _, by simp only [hlen]; omega⟩)
    (fun i hi => chop_width (by omega) (by omega))
    (fun i j hi hj => by
      rw [hlen] at hi
      have := mul_lt' (m := m) hi
      have hlt : i * m + j < us.size := by omega
      show (w.alloc (.cells us el)).cell? ⟨w.heap.size, 0 + i * m + j, none⟩ = _
      rw [cell_new, Nat.zero_add]
      simp [List.getD_eq_getElem?_getD, hlt])
    (fun i j hi hj => by
      rw [hlen] at hi
      have := mul_lt' (m := m) hi
      rw [chop_cell hi hj]
      exact (hr (i * m + j) (by omega)).keep i2.kap i2.cell)
  rw [hlen] at key
  exact key

/-- the cells of a literal -/
theorem lit_cells {fi : TypeInfo} {z : Value} {zs : List V} {n : Nat} {parts : Array (Nat × Operand)} {ps : List (Nat × S)} {cs : List V} (hc : constRow zs z.cells.toList = true) (hm : fi.size = zs.length) (hm0 : 0 < zs.length)
    (hl : ps.length = parts.size) (hp : ∀ (i : Nat) (p : Nat × S) (q : Nat × Operand), ps[i]? = some p → parts[i]? = some q → p.1 = q.1 ∧ RepV γ w (src e p.2) (a.eval q.2))
    (h : fills (List.replicate n zs).flatten (ps.map fun p => (p.1 * zs.length, zs.length, src e p.2)) = some cs) :
    ∃ us' : Array Value, (Instr.fill (fun i => some (i * fi.size, fi.size)) ((Array.range (n * fi.size)).map (fun i => (if n * fi.size = 0 then #[] else z.cells)[i % (if n * fi.size = 0 then (#[] : Array Value) else z.cells).size]!)) (parts.map fun (i, x) => (i, a.eval x)).toList) = some us' ∧ us'.size = n * zs.length ∧ cs.length = n * zs.length ∧ ∀ j, j < cs.length → RepC γ w (cs.getD j .und) (us'.toList.getD j undef) := by
  obtain ⟨h1, h2⟩ := constRow_rep (γ := γ) (w := w) hc
  have hzs : z.cells.size = zs.length := by simpa using h1.symm
  let us0 : Array Value := (Array.range (n * zs.length)).map (fun i => z.cells[i % z.cells.size]!)
  obtain ⟨us', f1, f2, f3, f4⟩ := fill_rep (γ := γ) (w := w) (place := fun i => some (i * zs.length, zs.length)) (qs := (parts.map fun (i, x) => (i, a.eval x)).toList) (us := us0) h (by simp [hl]) (fun i p q g1 g2 => by
    simp only [List.getElem?_map, Option.map_eq_some_iff] at g1
    obtain ⟨p', g1, rfl⟩ := g1
    simp only [Array.toList_map, List.getElem?_map, Option.map_eq_some_iff] at g2
    obtain ⟨q', g2, rfl⟩ := g2
    obtain ⟨k1, k2⟩ := hp i p' q' g1 (by simpa using g2)
    exact ⟨by simp [k1], k2⟩) (by simp [us0, rep_flat_len]) (fun j hj => by
    rw [rep_flat_len] at hj
    rw [rep_flat zs .und hm0 n j hj]
    have hlt : j % zs.length < zs.length := Nat.mod_lt _ hm0
    have := h2 (j % zs.length) hlt
    have e1 : us0.toList.getD j undef = z.cells.toList.getD (j % zs.length) undef := by
      have hlt' : j % zs.length < z.cells.size := by omega
      simp [us0, List.getD_eq_getElem?_getD, hj, hzs, hlt', hlt]
    rw [e1]
    exact this)
  rw [rep_flat_len] at f3
  refine ⟨us', ?_, by omega, f3, f4⟩
  rw [hm]
  by_cases h0 : n * zs.length = 0
  · have : ∀ f g : Nat → Value, (Array.range (n * zs.length)).map f = (Array.range (n * zs.length)).map g := fun f g => by rw [h0]; simp
    rw [this _ (fun i => z.cells[i % z.cells.size]!)]
    exact f1
  · simp only [if_neg h0]
    exact f1
theorem lit_run {t el : TypeId} {fi : TypeInfo} {z : Value} {n : Nat} {parts : Array (Nat × Operand)} {us' : Array Value} (ho : o.op = .buildSlice t n parts) (ht : P.underlying t = some (.slice el)) (hfi : P.info? el = some fi) (hz : fi.zero = some z) (hbig : n * fi.size ≤ 16777216)
    (hrun : (Instr.fill (fun i => some (i * fi.size, fi.size)) ((Array.range (n * fi.size)).map (fun i => (if n * fi.size = 0 then #[] else z.cells)[i % (if n * fi.size = 0 then (#[] : Array Value) else z.cells).size]!)) (parts.map fun (i, x) => (i, a.eval x)).toList) = some us') :
    (execOp a.eval o).run P w = .ok (.value (.slice (some ⟨w.heap.size, 0, none⟩) n n)) (w.alloc (.cells us' el)) := by
  have hb2 : ¬ (n * fi.size > 2 ^ 24) := by omega
  by_cases h0 : n * fi.size = 0
  · simp only [if_pos h0] at hrun
    simp [execOp, ho, Instr.buildSlice, run_underlying ht, sizeOf, typeInfo, hfi, h0, newRow, newObj, Sem.run]
    simp [h0] at hrun
    simp [hrun, Sem.run]
  · simp only [if_neg h0] at hrun
    rw [Array.toList_map] at hrun
    simp only [execOp, ho, Instr.buildSlice, run_underlying ht, sizeOf, typeInfo, hfi, Sem.run_bind, Result.andThen_ok]
    simp [hfi, hb2, h0, zeroValue, typeInfo, hz, hrun, newRow, newObj, Sem.run]

theorem sim_rowf {t el : TypeId} {fi : TypeInfo} {z : Value} {zs : List V} {n : Nat} {parts : Array (Nat × Operand)} {ps : List (Nat × S)} (ho : o.op = .buildSlice t n parts) (ht : P.underlying t = some (.slice el)) (hfi : P.info? el = some fi) (hz : fi.zero = some z) (hc : constRow zs z.cells.toList = true)
    (hm : fi.size = zs.length) (hm0 : 0 < zs.length) (hbig : n * zs.length ≤ 16777216)
    (hl : ps.length = parts.size) (hp : ∀ (i : Nat) (p : Nat × S) (q : Nat × Operand), ps[i]? = some p → parts[i]? = some q → p.1 = q.1 ∧ RepV γ w (src e p.2) (a.eval q.2))
    (hI : Inv G N γ σ w)
    (h : evalOp (.rowf n zs ps) e σ = some (v, σ1)) : OpOk P G N γ σ w ((execOp a.eval o).run P w) v σ1 := by
  simp only [evalOp, Option.bind_eq_some_iff, Option.map_eq_some_iff] at h
  obtain ⟨cs, h, cs', h3, h2⟩ := h
  cases h2
  obtain ⟨us', hrun, hus, hcs, f4⟩ := lit_cells (γ := γ) (w := w) hc hm hm0 hl hp h
  obtain ⟨κ', k1, k2, k3, k4, _⟩ := hI.freeze (clo σ 9 (refsL cs).eraseDups)
  obtain ⟨l3, g3⟩ := mapM_get h3
  have hn : n ≤ n * zs.length := Nat.le_mul_of_pos_right _ hm0
  refine row_ok (us := us') (cs := cs') (n := n) (m := zs.length) (el := el) k1 k2 k3 hm0 (by unfold maxLen; omega) (by omega) hus (fun j hj => ?_) (lit_run ho ht hfi hz (by rw [hm]; exact hbig) hrun)
  have hj' : j < cs.length := by omega
  obtain ⟨y, hy, hf⟩ := g3 j _ (List.getElem?_eq_getElem hj')
  rw [show cs'.getD j .und = y by rw [List.getD_eq_getElem?_getD, hy]; rfl]
  refine settle_rep hI k2 k4 hf ?_
  have := f4 j hj'
  rw [show cs.getD j .und = cs[j] by rw [List.getD_eq_getElem?_getD, List.getElem?_eq_getElem hj']; rfl] at this
  exact this

theorem sim_rows {t el : TypeId} {fi : TypeInfo} {z : Value} {zs : List V} {n : Nat} {parts : Array (Nat × Operand)} {ps : List (Nat × S)} (ho : o.op = .buildSlice t n parts) (ht : P.underlying t = some (.slice el)) (hfi : P.info? el = some fi) (hz : fi.zero = some z) (hc : constRow zs z.cells.toList = true)
    (hm : fi.size = zs.length) (hm0 : 0 < zs.length) (hbig : n * zs.length ≤ 16777216)
    (hl : ps.length = parts.size) (hp : ∀ (i : Nat) (p : Nat × S) (q : Nat × Operand), ps[i]? = some p → parts[i]? = some q → p.1 = q.1 ∧ RepV γ w (src e p.2) (a.eval q.2))
    (hI : Inv G N γ σ w)
    (h : evalOp (.rows n zs ps) e σ = some (v, σ1)) : OpOk P G N γ σ w ((execOp a.eval o).run P w) v σ1 := by
  simp only [evalOp, Option.bind_eq_some_iff] at h
  obtain ⟨cs, h, h2⟩ := h
  split at h2
  · rename_i hall
    cases h2
    obtain ⟨us', hrun, hus, hcs, f4⟩ := lit_cells (γ := γ) (w := w) hc hm hm0 hl hp h
    have hn : n ≤ n * zs.length := Nat.le_mul_of_pos_right _ hm0
    refine row_ok (σ := σ) (js := []) (κ' := γ.κ) (us := us') (cs := cs) (n := n) (m := zs.length) (el := el) hI (Ext.refl _ _) (fun _ _ => rfl) hm0 (by unfold maxLen; omega) (by omega) hus (fun j hj => ?_) (lit_run ho ht hfi hz (by rw [hm]; exact hbig) hrun)
    have hj' : j < cs.length := by omega
    exact rowB_rep (f4 j hj') (List.all_eq_true.1 hall _ (by rw [List.getD_eq_getElem?_getD, List.getElem?_eq_getElem hj']; exact List.getElem_mem hj'))
  · cases h2

/-- a slice of a new object -/
theorem sl_rep {γ' : Gh} {i blk len cap m : Nat} (hO : γ'.O[i]? = some (blk, 0)) (hs : sizeOf? w blk = some (cap * m)) (hl : len ≤ cap) (hc : cap ≤ maxLen) : RepC γ' w (.sl i 0 0 len m true) (.slice (some ⟨blk, 0, none⟩) len cap) :=
  .sl hO (Nat.le_refl _) hl hc (fun _ => rfl) (fun _ => ⟨rfl, fun _ => by rw [hs, Nat.zero_add]⟩)
theorem size_new (w : World) (us : Array Value) (el : TypeId) (fr : Nat × Nat) : sizeOf? (w.alloc (.cells us el fr)) w.heap.size = some us.size := by
  unfold sizeOf?
  rw [show (w.alloc (.cells us el fr)).heap[w.heap.size]? = some (.cells us el fr) from heap_alloc_new w _]

theorem sim_rowo {t el : TypeId} {fi : TypeInfo} {z : Value} {zs : List V} {n : Nat} {parts : Array (Nat × Operand)} {ps : List (Nat × S)} (ho : o.op = .buildSlice t n parts) (ht : P.underlying t = some (.slice el)) (hfi : P.info? el = some fi) (hz : fi.zero = some z) (hc : constRow zs z.cells.toList = true)
    (hm : fi.size = zs.length) (hm0 : 0 < zs.length) (hbig : n * zs.length ≤ 16777216)
    (hl : ps.length = parts.size) (hp : ∀ (i : Nat) (p : Nat × S) (q : Nat × Operand), ps[i]? = some p → parts[i]? = some q → p.1 = q.1 ∧ RepV γ w (src e p.2) (a.eval q.2))
    (hI : Inv G N γ σ w)
    (h : evalOp (.rowo el n zs ps) e σ = some (v, σ1)) : OpOk P G N γ σ w ((execOp a.eval o).run P w) v σ1 := by
  simp only [evalOp, Option.map_eq_some_iff] at h
  obtain ⟨cs, h, h2⟩ := h
  cases h2
  obtain ⟨us', hrun, hus, hcs, f4⟩ := lit_cells (γ := γ) (w := w) hc hm hm0 hl hp h
  have hn : n ≤ n * zs.length := Nat.le_mul_of_pos_right _ hm0
  exact newRow_ok (us := us') (u := .slice (some ⟨w.heap.size, 0, none⟩) n n) hI (by omega) (fun j hj => by
    have := f4 j hj
    simpa [Array.getD_eq_getD_getElem?, List.getD_eq_getElem?_getD] using this) (lit_run ho ht hfi hz (by rw [hm]; exact hbig) hrun) (fun γ' hO => sl_rep hO (by rw [size_new, hus]) (Nat.le_refl _) (by unfold maxLen; omega))

/-- make -/
theorem sim_mk {t el : TypeId} {fi : TypeInfo} {z : Value} {zs : List V} {x y : Operand} {s1 s2 : S} (ho : o.op = .makeSlice t x y) (ht : P.underlying t = some (.slice el)) (hfi : P.info? el = some fi) (hz : fi.zero = some z) (hc : constRow zs z.cells.toList = true)
    (hm : fi.size = zs.length) (hm0 : 0 < zs.length) (hby : 0 < fi.bytes) (hx : RepV γ w (src e s1) (a.eval x)) (hy : RepV γ w (src e s2) (a.eval y))
    (hI : Inv G N γ σ w)
    (h : evalOp (.mk el fi.bytes zs s1 s2) e σ = some (v, σ1)) : OpOk P G N γ σ w ((execOp a.eval o).run P w) v σ1 := by
  simp only [evalOp] at h
  split at h
  · rename_i n c e1 e2
    rw [e1] at hx
    rw [e2] at hy
    have hx' := repC_int (repV_cell rfl hx)
    have hy' := repC_int (repV_cell rfl hy)
    split at h
    · rename_i hb
      cases h
      obtain ⟨h0, hnc, hbytes⟩ := hb
      obtain ⟨h1, h2⟩ := constRow_rep (γ := γ) (w := w) hc
      have hzs : z.cells.size = zs.length := by simpa using h1.symm
      have hcle : c.toNat ≤ 140737488355328 := Nat.le_trans (Nat.le_mul_of_pos_right _ hby) hbytes
      have hcm : c.toNat ≤ maxLen := by unfold maxLen; omega
      have hus : (madeCells z.cells (c.toNat * fi.size)).size = c.toNat * zs.length := by rw [size_madeCells, hm]
      have hle : n.toNat * zs.length ≤ c.toNat * zs.length := Nat.mul_le_mul_right _ (by omega)
      have hb1 : (fi.bytes : Int) * c ≤ 281474976710656 := by
        have : ((c.toNat * fi.bytes : Nat) : Int) ≤ 140737488355328 := Int.ofNat_le.2 hbytes
        rw [Int.natCast_mul, Int.toNat_of_nonneg (by omega), Int.mul_comm] at this
        omega
      have hr := run_make (P := P) w t el fi z ht hfi hz .i64 .i64 n c h0 hnc hb1 (by omega)
      refine newRow_ok (us := madeCells z.cells (c.toNat * fi.size)) (el := el) (u := .slice (some ⟨w.heap.size, 0, none⟩) n.toNat c.toNat) hI (by rw [rep_flat_len]; omega) (fun j hj => ?_) (by simp [execOp, ho, hx', hy', hr]) (fun γ' hO => sl_rep hO (by rw [size_new, hus]) (by omega) hcm)
      rw [rep_flat_len] at hj
      rw [rep_flat zs .und hm0 _ j hj]
      have hlt : j % zs.length < zs.length := Nat.mod_lt _ hm0
      have := h2 (j % zs.length) hlt
      have e1 : (madeCells z.cells (c.toNat * fi.size)).getD j undef = z.cells.toList.getD (j % zs.length) undef := by
        have hlt' : j % zs.length < z.cells.size := by omega
        have hj2 : j < c.toNat * zs.length := by omega
        simp [madeCells, hm, Array.getD_eq_getD_getElem?, List.getD_eq_getElem?_getD, hj2, hzs, hlt', hlt]
      rw [e1]
      exact this
    · cases h
  · cases h
end Go.Proofs.YticpkkjnajmpoaaGreatDoor.KM
