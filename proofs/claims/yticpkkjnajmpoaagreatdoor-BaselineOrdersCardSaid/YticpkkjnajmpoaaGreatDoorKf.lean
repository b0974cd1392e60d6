/- Addresses, reading and writing memory. -/
import Derived.Test.YticpkkjnajmpoaaGreatDoorKe
set_option linter.all false
namespace Go.Proofs.YticpkkjnajmpoaaGreatDoor.KM
open Go Go.RowKit
variable {P : Program} {G : List (Nat × List V)} {N : Nat} {γ : Gh} {σ σ1 : St} {w : World} {e : Env} {a : Act} {o : Oper} {v : V}

theorem add_none (b o n : Nat) : (⟨b, o, none⟩ : Addr).add n = ⟨b, o + n, none⟩ := by
  unfold Addr.add
  split
  · rename_i h; subst h; rfl
  · rfl
theorem imm_off {r : List V} {off n b o' : Nat} (h : RepC γ w (.imm r off) (.pointer (some ⟨b, o', none⟩))) : RepC γ w (.imm r (off + n)) (.pointer (some ⟨b, o' + n, none⟩)) := by
  obtain ⟨b2, o2, k, row, hu, h1, h2, h3, h4⟩ := repC_imm h
  simp at hu
  obtain ⟨rfl, rfl⟩ := hu
  rw [Nat.add_assoc]
  exact .imm row h1 h2 h3 h4
/-- a pointer's address -/
theorem imm_addr {r : List V} {off : Nat} {u : Value} (hv : RepC γ w (.imm r off) u) : ∃ b o, u = .pointer (some ⟨b, o, none⟩) := by
  obtain ⟨b, o, k, row, hu, _⟩ := repC_imm hv
  exact ⟨_, _, hu⟩
/-- a pointer into an object -/
theorem ptr_rep {i g blk off : Nat} (h : γ.O[i]? = some (blk, g)) : RepC γ w (.ptr i g off) (.pointer (some ⟨blk, off, none⟩)) := .ptr h (Nat.le_refl _) (fun _ => rfl)
/-- a pointer moves on -/
theorem ptr_off {i g off n b' : Nat} (h : RepC γ w (.ptr i g off) (.pointer (some ⟨b', off, none⟩))) : RepC γ w (.ptr i g (off + n)) (.pointer (some ⟨b', off + n, none⟩)) := by
  obtain ⟨b2, blk, g', hu, h1, h2, h3⟩ := repC_ptr h
  simp at hu
  subst hu
  exact .ptr h1 h2 h3

theorem sim_fad {t : TypeId} {fs : Array Field} {f : Field} {fi : TypeInfo} {i off : Nat} {x : Operand} {s : S} (ho : o.op = .fieldAddr t x i) (ht : P.underlying t = some (.struct fs)) (hf : fs[i]? = some f) (hoff : f.offset = off) (hfi : P.info? f.type = some fi) (hsz : fi.size ≠ 0)
    (hx : RepV γ w (src e s) (a.eval x)) (hI : Inv G N γ σ w) (h : evalOp (.fad off s) e σ = some (v, σ1)) : OpOk P G N γ σ w ((execOp a.eval o).run P w) v σ1 := by
  have run : ∀ b p, a.eval x = .pointer (some ⟨b, p, none⟩) → (execOp a.eval o).run P w = .ok (.value (.pointer (some ⟨b, p + off, none⟩))) w := fun b p hu => by
    simp [execOp, ho, hu, Instr.fieldAt, run_underlying ht, hf, Instr.sureAddr, fieldPlace, sizeOf, typeInfo, hfi, hsz, hoff, add_none]
  simp only [evalOp] at h
  split at h
  · rename_i r off' e1
    rw [e1] at hx
    have hx' := repV_cell rfl hx
    obtain ⟨b, p, hu⟩ := imm_addr hx'
    cases h
    rw [hu] at hx'
    exact ok_pure hI (run b p hu) (repV_of (imm_off hx'))
  · rename_i b g off' e1
    rw [e1] at hx
    have hx' := repV_cell rfl hx
    obtain ⟨b', _, _, hu, _⟩ := repC_ptr hx'
    cases h
    rw [hu] at hx'
    exact ok_pure hI (run b' off' hu) (repV_of (ptr_off hx'))
  · cases h

theorem sim_iar {t el : TypeId} {fi : TypeInfo} {len m : Nat} {x y : Operand} {s1 s2 : S} (ho : o.op = .indexAddr t x y) (ht : P.underlying t = some (.array len el)) (hfi : P.info? el = some fi) (hm : fi.size = m)
    (hx : RepV γ w (src e s1) (a.eval x)) (hy : RepV γ w (src e s2) (a.eval y)) (hI : Inv G N γ σ w) (h : evalOp (.iar len m s1 s2) e σ = some (v, σ1)) : OpOk P G N γ σ w ((execOp a.eval o).run P w) v σ1 := by
  simp only [evalOp] at h
  split at h
  · rename_i k n e2
    rw [e2] at hy
    have hy' := repC_int (repV_cell rfl hy)
    split at h
    · rename_i hn
      have run : ∀ b p, a.eval x = .pointer (some ⟨b, p, none⟩) → (execOp a.eval o).run P w = .ok (.value (.pointer (some ⟨b, p + n.toNat * m, none⟩))) w := fun b p hu => by
        simp [execOp, ho, hu, hy', Instr.indexAt, asIntOf, run_underlying ht, Instr.sureAddr, hn, sizeOf, typeInfo, hfi, hm, add_none]
      split at h
      · rename_i r off' e1
        rw [e1] at hx
        have hx' := repV_cell rfl hx
        obtain ⟨b, p, hu⟩ := imm_addr hx'
        cases h
        rw [hu] at hx'
        exact ok_pure hI (run b p hu) (repV_of (imm_off hx'))
      · rename_i b g off' e1
        rw [e1] at hx
        have hx' := repV_cell rfl hx
        obtain ⟨b', _, _, hu, _⟩ := repC_ptr hx'
        cases h
        rw [hu] at hx'
        exact ok_pure hI (run b' off' hu) (repV_of (ptr_off hx'))
      · cases h
    · cases h
  · cases h

theorem sim_iad {t el : TypeId} {fi : TypeInfo} {m : Nat} {x y : Operand} {s1 s2 : S} (ho : o.op = .indexAddr t x y) (ht : P.underlying t = some (.slice el)) (hfi : P.info? el = some fi) (hm : fi.size = m)
    (hx : RepV γ w (src e s1) (a.eval x)) (hy : RepV γ w (src e s2) (a.eval y)) (hI : Inv G N γ σ w) (h : evalOp (.iad m s1 s2) e σ = some (v, σ1)) : OpOk P G N γ σ w ((execOp a.eval o).run P w) v σ1 := by
  simp only [evalOp] at h
  split at h
  · rename_i t' xs e1
    rw [e1] at hx
    obtain ⟨ad, cap, hu, hR, _⟩ := repC_lst (repV_cell rfl hx)
    simp only [Option.bind_eq_some_iff] at h
    obtain ⟨r, hr, h⟩ := h
    split at h
    · rename_i hrl
      cases h
      unfold atI at hr
      split at hr
      · rename_i k n e2
        rw [e2] at hy
        have hy' := repC_int (repV_cell rfl hy)
        split at hr
        · rename_i hn
          obtain ⟨hg, hlt⟩ := getD_lt (d := []) hr
          cases hR with
          | @lst _ _ _ _ m' row h1 h2 h3 h4 h5 h6 h7 =>
          obtain ⟨hsp, k', hk, hle⟩ := h4 (Nat.zero_lt_of_lt hlt)
          have hm' : m' = m := by rw [← h5 n.toNat hlt, hg, hrl]
          subst hm'
          have hn2 : n < (xs.length : Int) := (Int.toNat_lt hn).1 hlt
          have hmul : n.toNat * m' + m' ≤ xs.length * m' := by rw [← Nat.succ_mul]; exact Nat.mul_le_mul_right _ hlt
          have had : ad.add (n.toNat * m') = ⟨ad.block, ad.off + n.toNat * m', none⟩ := by
            obtain ⟨b, of, sp⟩ := ad
            simp at hsp
            subst hsp
            exact add_none _ _ _
          refine ok_pure hI (u := .pointer (some ⟨ad.block, ad.off + n.toNat * m' + 0, none⟩)) ?_ (repV_of (.imm (fun j => row n.toNat j) hk (by rw [hrl]; exact Nat.le_trans (by omega) hle) (fun j hj => h6 n.toNat j hlt (by omega)) (fun j hj => ?_)))
          · simp [execOp, ho, hu, hy', Instr.indexAt, asIntOf, run_underlying ht, hn, hn2, sizeOf, typeInfo, hfi, hm, had]
          · have := h7 n.toNat j hlt (by omega)
            rwa [hg] at this
        · cases hr
      · cases hr
    · cases h
  · rename_i j g off len m' own e1
    rw [e1] at hx
    split at h
    · rename_i k n e2
      rw [e2] at hy
      have hy' := repC_int (repV_cell rfl hy)
      split at h
      · rename_i hc
        obtain ⟨hn, hn2, rfl⟩ := hc
        obtain ⟨b', o', cap, blk, g', hu, hb, hle, hcap, _, ho', hl⟩ := repC_sl (repV_cell rfl hx)
        obtain rfl := ho' (by omega)
        cases h
        refine ok_pure hI (u := .pointer (some ⟨b', o' + n.toNat * m, none⟩)) ?_ (repV_of (.ptr hb hle (fun e => (hl e).1)))
        simp [execOp, ho, hu, hy', Instr.indexAt, asIntOf, run_underlying ht, hn, hn2, sizeOf, typeInfo, hfi, hm, add_none]
      · cases h
    · cases h
  · cases h

/-- what is read -/
theorem cells_at {n : Nat} {one : Bool} {p : V} {u : Value} (hI : Inv G N γ σ w) (hp : RepV γ w p u) (h : loadV σ n one p = some v) :
    ∃ b o cs, ∃ f : Nat → Value, u = .pointer (some ⟨b, o, none⟩) ∧ mkOne one cs = some v ∧ cs.length = n ∧ (∀ j, j < n → w.cell? ⟨b, o + j, none⟩ = some (f j)) ∧ ∀ j, j < n → RepC γ w (cs.getD j .und) (f j) := by
  unfold loadV at h
  split at h
  · rename_i r off
    obtain ⟨b, o', k, row, hu, h1, h2, h3, h4⟩ := repC_imm (repV_cell rfl hp)
    split at h
    · rename_i hle
      refine ⟨b, o' + off, (r.drop off).take n, fun j => row (off + j), hu, h, by rw [List.length_take, List.length_drop]; omega, fun j hj => ?_, fun j hj => ?_⟩
      · rw [Nat.add_assoc]; exact h3 (off + j) (by omega)
      · have := h4 (off + j) (by omega)
        have e2 : ((r.drop off).take n).getD j V.und = r.getD (off + j) .und := by
          simp only [List.getD_eq_getElem?_getD, List.getElem?_take, List.getElem?_drop, hj, if_true]
        rw [e2]
        exact .row this
    · cases h
  · rename_i i g off
    split at h
    · rename_i cs e0 g' z hcs
      split at h
      · rename_i hle
        obtain ⟨rfl, hle⟩ := hle
        obtain ⟨blk, hb, hu⟩ := live_ptr hI (repV_cell rfl hp) (by simp [eqLive, hcs])
        obtain ⟨_, _, _, us, lo, hi, g1, _, g2, g3⟩ := hI.obj i _ _ hcs hb
        refine ⟨blk, off, (cs.drop off).take n, fun j => us.getD (off + j) undef, hu, h, by rw [List.length_take, List.length_drop]; omega, fun j hj => ?_, fun j hj => ?_⟩
        · have hlt : off + j < us.size := by omega
          simp [World.cell?, g1, Array.getD_eq_getD_getElem?, hlt]
        · have := g3 (off + j) (by omega)
          have e2 : ((cs.drop off).take n).getD j V.und = cs.getD (off + j) .und := by
            simp only [List.getD_eq_getElem?_getD, List.getElem?_take, List.getElem?_drop, hj, if_true]
          rw [e2]
          exact this
      · cases h
    · cases h
  · cases h
theorem mkOne_rep {n : Nat} {one : Bool} {cs : List V} {f : Nat → Value} (h : mkOne one cs = some v) (hl : cs.length = n) (hr : ∀ j, j < n → RepC γ w (cs.getD j .und) (f j)) :
    (one = true → n = 1 ∧ RepC γ w v (f 0)) ∧ (one = false → Rep1 γ w v (.agg ((List.range n).map f).toArray)) := by
  unfold mkOne at h
  constructor
  · rintro rfl
    rw [if_pos rfl] at h
    split at h
    · cases h
      simp at hl
      exact ⟨hl.symm, by have := hr 0 (by omega); simpa using this⟩
    · cases h
  · rintro rfl
    rw [if_neg (by simp)] at h
    cases h
    refine .agg (by simp [hl]) (fun j hj => ?_)
    have := hr j (by omega)
    simpa [List.getD_eq_getElem?_getD, show j < n by omega] using this

def aggB : TypeDesc → Bool
  | .struct _ | .array _ _ => true
  | _ => false
theorem run_isAgg {t : TypeId} {d : TypeDesc} (h : P.underlying t = some d) : (isAgg t).run P w = .ok (aggB d) w := by
  simp only [isAgg, Sem.run_bind, run_underlying h, Result.andThen_ok]
  cases d <;> rfl
/-- loadVar -/
theorem run_loadVar {t : TypeId} {d : TypeDesc} {fi : TypeInfo} {n : Nat} {one : Bool} {b p : Nat} {f : Nat → Value} (ht : P.underlying t = some d) (hd : aggB d = !one) (hfi : P.info? t = some fi) (hn : fi.size = n) (hone : one = true → n = 1)
    (hc : ∀ j, j < n → w.cell? ⟨b, p + j, none⟩ = some (f j)) : (loadVar t ⟨b, p, none⟩).run P w = .ok (if one then f 0 else .agg ((List.range n).map f).toArray) w := by
  have hag := run_isAgg (P := P) (w := w) ht
  rw [hd] at hag
  cases one with
  | true =>
    have h0 := hc 0 (by have := hone rfl; omega)
    simp at h0
    simp [loadVar, hag, load, Sem.run, h0]
  | false =>
    have hl := run_loadCells (P := P) w ⟨b, p, none⟩ n f (fun j hj => by rw [add_none]; exact hc j hj)
    simp [loadVar, hag, sizeOf, typeInfo, hfi, hn, hl]

theorem sim_load {t : TypeId} {d : TypeDesc} {fi : TypeInfo} {n : Nat} {one : Bool} {x : Operand} {s : S} (ho : o.op = .load t x) (ht : P.underlying t = some d) (hd : aggB d = !one) (hfi : P.info? t = some fi) (hn : fi.size = n)
    (hx : RepV γ w (src e s) (a.eval x)) (hI : Inv G N γ σ w) (h : evalOp (.load n one s) e σ = some (v, σ1)) : OpOk P G N γ σ w ((execOp a.eval o).run P w) v σ1 := by
  simp only [evalOp, Option.map_eq_some_iff] at h
  obtain ⟨v', h, h2⟩ := h
  cases h2
  obtain ⟨b, p, cs, f, hu, h1, h2, h3, h4⟩ := cells_at hI hx h
  obtain ⟨m1, m2⟩ := mkOne_rep h1 h2 h4
  have hr := run_loadVar (P := P) (w := w) ht hd hfi hn (fun h => (m1 h).1) h3
  refine ok_pure hI (u := if one then f 0 else .agg ((List.range n).map f).toArray) (by simp [execOp, ho, hu, Instr.loadAt, Instr.sureAddr, hr]) ?_
  cases one with
  | true => exact repV_of (m1 rfl).2
  | false => exact .one (m2 rfl)

theorem okc {us : List Value} {cs : List V} (hl : cs.length = us.length) (h : ∀ j, j < cs.length → RepC γ w (cs.getD j .und) (us.getD j undef)) : ∀ u ∈ us, u.oneCell' = true := by
  intro u hu
  obtain ⟨j, hj, rfl⟩ := List.getElem_of_mem hu
  have := (repC_none (h j (by omega))).2
  simpa [List.getD_eq_getElem?_getD, hj] using this

theorem putAt_rep {cs r cs' : List V} {off : Nat} {us ur : List Value} (hp : putAt cs off r = some cs') (hl : us.length = cs.length) (hlr : r.length = ur.length)
    (h1 : ∀ j, j < cs.length → RepC γ w (cs.getD j .und) (us.getD j undef)) (h2 : ∀ j, j < r.length → RepC γ w (r.getD j .und) (ur.getD j undef)) :
    off + r.length ≤ cs.length ∧ cs'.length = cs.length ∧ (us.take off ++ ur ++ us.drop (off + ur.length)).length = cs'.length ∧ ∀ j, j < cs'.length → RepC γ w (cs'.getD j .und) ((us.take off ++ ur ++ us.drop (off + ur.length)).getD j undef) := by
  unfold putAt at hp
  split at hp
  · rename_i hle
    cases hp
    refine ⟨hle, by simp; omega, by simp; omega, fun j hj => ?_⟩
    by_cases hj1 : j < off
    · have e1 : (cs.take off ++ r ++ cs.drop (off + r.length)).getD j V.und = cs.getD j .und := by
        simp only [List.getD_eq_getElem?_getD]
        rw [List.append_assoc, List.getElem?_append_left (by simp; omega), List.getElem?_take, if_pos hj1]
      have e2 : (us.take off ++ ur ++ us.drop (off + ur.length)).getD j undef = us.getD j undef := by
        simp only [List.getD_eq_getElem?_getD]
        rw [List.append_assoc, List.getElem?_append_left (by simp; omega), List.getElem?_take, if_pos hj1]
      rw [e1, e2]
      exact h1 j (by omega)
    · by_cases hj2 : j < off + r.length
      · have e1 : (cs.take off ++ r ++ cs.drop (off + r.length)).getD j V.und = r.getD (j - off) .und := by
          simp only [List.getD_eq_getElem?_getD]
          rw [List.append_assoc, List.getElem?_append_right (by simp; omega), List.getElem?_append_left (by simp; omega)]
          simp [show min off cs.length = off by omega]
        have e2 : (us.take off ++ ur ++ us.drop (off + ur.length)).getD j undef = ur.getD (j - off) undef := by
          simp only [List.getD_eq_getElem?_getD]
          rw [List.append_assoc, List.getElem?_append_right (by simp; omega), List.getElem?_append_left (by simp; omega)]
          simp [show min off us.length = off by omega]
        rw [e1, e2]
        exact h2 (j - off) (by omega)
      · have hj3 : j < cs.length := by simp at hj; omega
        have e1 : (cs.take off ++ r ++ cs.drop (off + r.length)).getD j V.und = cs.getD j .und := by
          simp only [List.getD_eq_getElem?_getD]
          rw [List.getElem?_append_right (by simp; omega), List.getElem?_drop]
          congr 2
          simp; omega
        have e2 : (us.take off ++ ur ++ us.drop (off + ur.length)).getD j undef = us.getD j undef := by
          simp only [List.getD_eq_getElem?_getD]
          rw [List.getElem?_append_right (by simp; omega), List.getElem?_drop]
          congr 2
          simp; omega
        rw [e1, e2]
        exact h1 j hj3
  · cases hp

/-- cells are written, none of them shared with a string -/
theorem run_storeCells_free (P : Program) (g o : Nat) (t : TypeId) (fz : Nat × Nat) : ∀ (vs : List Value) (i : Nat) (cur : Array Value) (w : World), w.heap[g]? = some (.cells cur t fz) → (fz.2 ≤ o + i ∨ cur.size ≤ fz.1) → o + i + vs.length ≤ cur.size → (∀ v ∈ vs, v.oneCell' = true) →
    (storeCells ⟨g, o, none⟩ vs i).run P w = .ok () (w.setRow g (cur.toList.take (o + i) ++ vs ++ cur.toList.drop (o + i + vs.length)).toArray)
  | [], i, cur, w, hg, _, _, _ => by
    simp only [storeCells, List.append_nil, List.length_nil, Nat.add_zero, List.take_append_drop, Array.toArray_toList]
    rw [setRow_self w g cur t fz hg]
    rfl
  | v :: rest, i, cur, w, hg, hfz, hl, h1 => by
    have hi : o + i < cur.size := by simp at hl; omega
    have hadd : (⟨g, o, none⟩ : Addr).add i = ⟨g, o + i, none⟩ := add_none _ _ _
    have hcell : w.cell? ⟨g, o + i, none⟩ = some cur[o + i] := by simp [World.cell?, hg, hi]
    have hfro : w.frozen? ⟨g, o + i, none⟩ = false := by
      obtain ⟨lo, hi'⟩ := fz
      simp only [World.frozen?, hg, Bool.and_eq_false_iff, decide_eq_false_iff_not]
      simp only at hfz
      rcases hfz with h | h
      · right; omega
      · left; omega
    have hst : (store ((⟨g, o, none⟩ : Addr).add i) v).run P w = .ok () (w.setRow g (cur.setIfInBounds (o + i) v)) := by
      rw [hadd, run_store P w _ v _ (h1 v (by simp)), hcell]
      simp [hfro, setCell_eq_setRow w g (o + i) cur t fz v hg]
    have ih := run_storeCells_free P g o t fz rest (i + 1) (cur.setIfInBounds (o + i) v) (w.setRow g (cur.setIfInBounds (o + i) v)) (setRow_heap w g cur _ t _ hg) (by simp; omega) (by simp at hl ⊢; omega) (fun x hx => h1 x (by simp [hx]))
    simp only [storeCells, Sem.run_bind, hst, Result.andThen_ok, ih, setRow_setRow]
    congr 3
    have e := list_seg_step cur.toList (o + i) v rest (by simp at hl ⊢; omega)
    simpa [Array.toList_setIfInBounds, Nat.add_assoc] using e
theorem seg_get {α : Type} (us ur : List α) (off j : Nat) (h : off + ur.length ≤ us.length) : (us.take off ++ ur ++ us.drop (off + ur.length))[j]? = if j < off then us[j]? else if j < off + ur.length then ur[j - off]? else us[j]? := by
  by_cases hj1 : j < off
  · rw [if_pos hj1, List.append_assoc, List.getElem?_append_left (by simp; omega), List.getElem?_take, if_pos hj1]
  · rw [if_neg hj1]
    by_cases hj2 : j < off + ur.length
    · rw [if_pos hj2, List.append_assoc, List.getElem?_append_right (by simp; omega), List.getElem?_append_left (by simp; omega)]
      congr 1
      simp; omega
    · rw [if_neg hj2, List.getElem?_append_right (by simp; omega), List.getElem?_drop]
      congr 1
      simp; omega
theorem below_setRow {b : Nat} (us : Array Value) (h : N ≤ b) : Below N w (w.setRow b us) :=
  ⟨rfl, rfl, rfl, by simp [World.setRow], fun k hk => setRow_other w b k us (by omega)⟩

theorem sim_store {t : TypeId} {fi : TypeInfo} {n : Nat} {x y : Operand} {s1 s2 : S} (ho : o.op = .store t x y) (hfi : P.info? t = some fi) (hn : fi.size = n)
    (hx : RepV γ w (src e s1) (a.eval x)) (hy : RepV γ w (src e s2) (a.eval y)) (hI : Inv G N γ σ w) (h : evalOp (.store n s1 s2) e σ = some (v, σ1)) : OpOk P G N γ σ w ((execOp a.eval o).run P w) v σ1 := by
  simp only [evalOp, Option.map_eq_some_iff] at h
  obtain ⟨σ', h, h2⟩ := h
  cases h2
  unfold storeV at h
  split at h
  · rename_i b g off e1
    rw [e1] at hx
    split at h
    · rename_i cs ee g' z hcs
      split at h
      · rename_i hc
        obtain ⟨rfl, hz, hcn, hcall⟩ := hc
        simp only [Option.map_eq_some_iff] at h
        obtain ⟨cs', hp, h⟩ := h
        cases h
        obtain ⟨blk, hb, hu⟩ := live_ptr hI (repV_cell rfl hx) (by simp [eqLive, hcs])
        obtain ⟨ur, hur, hl, hr⟩ := rep_cells hy hcall
        obtain ⟨_, hkz, hzl, us, lo, hi, g1, ghi, g2, g3⟩ := hI.obj b _ _ hcs hb
        have g3' : ∀ j, j < cs.length → RepC γ w (cs.getD j .und) ((us.toList.take cs.length).getD j undef) := fun j hj => by
          have := g3 j hj
          simpa [Array.getD_eq_getD_getElem?, List.getD_eq_getElem?_getD, List.getElem?_take, hj] using this
        obtain ⟨p1, p2, p3, p4⟩ := putAt_rep hp (by simp; omega) hl g3' hr
        have hst := run_storeCells_free P blk off ee (lo, hi) ur 0 us w g1 (by rcases ghi.2 with h | h; exact .inl (by simp; omega); exact .inr h) (by simp; omega) (okc hl hr)
        simp only [Nat.add_zero] at hst
        have hsz : (a.eval y).cells.size = fi.size := by rw [hur]; simp; omega
        have hurl : ur.length = n := by omega
        have hsz2 : ((us.toList.take off ++ ur ++ us.toList.drop (off + ur.length)).toArray).size = us.size := by simp; omega
        obtain ⟨i1, i2⟩ := hI.write (us' := (us.toList.take off ++ ur ++ us.toList.drop (off + ur.length)).toArray) (cs' := cs') (g' := g) hb hcs g1 ghi (Nat.le_refl _) (by omega) hsz2 (by omega) (fun o ho => by
          rw [List.getElem?_toArray, List.append_assoc, List.getElem?_append_left (by simp; omega), List.getElem?_take, if_pos (by omega), Array.getElem?_toList]) (fun j hj => by
          have := p4 j hj
          have e2 : ((us.toList.take off ++ ur ++ us.toList.drop (off + ur.length)).toArray).getD j undef = ((us.toList.take cs.length).take off ++ ur ++ (us.toList.take cs.length).drop (off + ur.length)).getD j undef := by
            rw [Array.getD_eq_getD_getElem?, List.getElem?_toArray, List.getD_eq_getElem?_getD, seg_get _ _ _ _ (by simp; omega), seg_get _ _ _ _ (by simp; omega)]
            rw [List.getElem?_take, if_pos (show j < cs.length by omega)]
          rw [e2]
          exact this)
        rw [show (blk, g).1 = blk from rfl, set_same hb] at i1 i2
        refine ⟨undef, _, _, .inr ⟨?_, rfl⟩, .und, i1, i2, below_setRow _ (hI.low _ _ hb), fun _ _ => rfl⟩
        have hcl : (a.eval y).cells.toList = ur := by rw [hur]
        simp [execOp, ho, hu, Instr.storeAt, Instr.sureAddr, storeVar, sizeOf, typeInfo, hfi, hsz, hcl, hst]
      · cases h
    · cases h
  · cases h
end Go.Proofs.YticpkkjnajmpoaaGreatDoor.KM
