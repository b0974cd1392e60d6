/- What the program's operations do where the plain machine's do something: reckoning, reading, writing. -/
import Derived.Test.YticpkkjnajmpoaaGreatDoorKd
set_option linter.all false
namespace Go.Proofs.YticpkkjnajmpoaaGreatDoor.KM
open Go Go.RowKit
variable {P : Program} {G : List (Nat × List V)} {N : Nat} {γ : Gh} {σ σ1 : St} {w : World} {e : Env} {a : Act} {o : Oper} {v : V}

/-- what an operation leaves -/
def OpOk (P : Program) (G : List (Nat × List V)) (N : Nat) (γ : Gh) (σ : St) (w : World) (r : Result Next) (v : V) (σ1 : St) : Prop :=
  ∃ u w1 γ1, (r = .ok (.value u) w1 ∨ (r = .ok .skip w1 ∧ u = undef)) ∧ RepV γ1 w1 v u ∧ Inv G N γ1 σ1 w1 ∧ Ext γ w γ1 w1 ∧ Below N w w1 ∧ ∀ b, b < N → γ1.κ b = γ.κ b
theorem ok_pure {r : Result Next} {u : Value} (hI : Inv G N γ σ w) (hr : r = .ok (.value u) w) (hv : RepV γ w v u) : OpOk P G N γ σ w r v σ :=
  ⟨u, w, γ, .inl hr, hv, hI, Ext.refl _ _, Below.refl _ _, fun _ _ => rfl⟩

theorem mk_append (l m : List UInt8) : (⟨l.toArray⟩ : ByteArray) ++ ⟨m.toArray⟩ = ⟨(l ++ m).toArray⟩ := by
  apply WideShapes.bytes_inj
  simp
theorem mk_size (l : List UInt8) : (⟨l.toArray⟩ : ByteArray).size = l.length := by simp [ByteArray.size]
theorem str_le {l : List UInt8} (h : l.length ≤ 9223372036854775807) : l.length ≤ maxLen := by unfold maxLen; omega

theorem int_rep {k : IntKind} {n : Int} : RepV γ w (.int k n) (.int k n) := repV_of (.row .int)
theorem bool_rep {b : Bool} : RepV γ w (.bool b) (.bool b) := repV_of (.row .bool)
theorem str_rep {l : List UInt8} (h : l.length ≤ maxLen) : RepV γ w (.str l) (.string ⟨l.toArray⟩) := repV_of (.row (.str h))

theorem sim_bin {op : BinOp} {t ty : TypeId} {x y : Operand} {s1 s2 : S} (ho : o.op = .binOp op t x y ty) (hx : RepV γ w (src e s1) (a.eval x)) (hy : RepV γ w (src e s2) (a.eval y)) (hI : Inv G N γ σ w)
    (h : binV op (src e s1) (src e s2) = some v) : OpOk P G N γ σ w ((execOp a.eval o).run P w) v σ := by
  unfold binV at h
  split at h
  · rename_i k m k' n e1 e2
    rw [e1] at hx
    rw [e2] at hy
    have hx' := repC_int (repV_cell rfl hx)
    have hy' := repC_int (repV_cell rfl hy)
    clear e1 e2 hx hy
    cases op <;> simp only [binI] at h <;> first
      | cases h
      | (split at h
         · cases h
         · rename_i hb
           cases h
           exact ok_pure hI (by simp [execOp, ho, hx', hy', eqGuard, binOp, Op.shift, hb]; try rfl) int_rep)
      | (split at h
         · rename_i hk
           first
             | (subst hk
                cases h
                exact ok_pure hI (by simp [execOp, ho, hx', hy', eqGuard, binOp, Op.intArith, Op.intCmp, Op.intBits]; try rfl) (by first | exact int_rep | exact bool_rep))
             | (obtain ⟨rfl, hb⟩ := hk
                cases h
                exact ok_pure hI (by simp [execOp, ho, hx', hy', eqGuard, binOp, Op.intDiv, hb]; try rfl) int_rep)
         · cases h)
  · rename_i l m e1 e2
    rw [e1] at hx
    rw [e2] at hy
    obtain ⟨hx', hlx⟩ := repC_str (repV_cell rfl hx)
    obtain ⟨hy', hly⟩ := repC_str (repV_cell rfl hy)
    by_cases ha : op = .add
    · subst ha
      simp only [binS] at h
      by_cases hl : l.length + m.length ≤ 9223372036854775807
      · rw [if_pos hl] at h
        cases h
        refine ok_pure hI ?_ (str_rep (str_le (by rw [List.length_append]; exact hl)))
        have hm : ¬ (((⟨l.toArray⟩ : ByteArray).size + (⟨m.toArray⟩ : ByteArray).size : Nat) : Int) > IntKind.i64.max := by
          rw [mk_size, mk_size]
          show ¬ ((_ : Nat) : Int) > 9223372036854775807
          omega
        have hs : (Op.stringOp .add ⟨l.toArray⟩ ⟨m.toArray⟩).run P w = .ok (.string ⟨(l ++ m).toArray⟩) w := by
          simp only [Op.stringOp]
          rw [if_neg hm, mk_append]
          rfl
        simp [execOp, ho, hx', hy', eqGuard, binOp, hs]
      · rw [if_neg hl] at h
        cases h
    · cases op <;> simp only [binS] at h <;> first
        | exact absurd rfl ha
        | (cases h; done)
        | (cases h; exact ok_pure hI (by simp [execOp, ho, hx', hy', eqGuard, binOp, Op.stringOp]) bool_rep)
  · cases h
/-- what is of the present generation lies where the object lies -/
theorem live_obj (hI : Inv G N γ σ w) {i g off : Nat} (h : eqLive σ (.ptr i g off) = true) : ∃ cs e z blk, σ[i]? = some (.row cs e g z) ∧ γ.O[i]? = some (blk, g) := by
  unfold eqLive at h
  split at h
  · rename_i i' g' off' he
    cases he
    split at h
    · rename_i cs e g1 z ho
      obtain rfl := eq_of_beq h
      obtain ⟨⟨blk, g2⟩, hp, hk⟩ := hI.of ho
      obtain rfl : g2 = g := hk.1
      exact ⟨cs, e, z, blk, ho, hp⟩
    · cases h
  · rename_i he; cases he
  · rename_i he _; exact absurd rfl (he _ _ _)
theorem live_ptr (hI : Inv G N γ σ w) {i g off : Nat} {u : Value} (hu : RepC γ w (.ptr i g off) u) (h : eqLive σ (.ptr i g off) = true) : ∃ blk, γ.O[i]? = some (blk, g) ∧ u = .pointer (some ⟨blk, off, none⟩) := by
  obtain ⟨cs, e, z, blk, ho, hp⟩ := live_obj hI h
  obtain ⟨b', blk', g', hu', h1, h2, h3⟩ := repC_ptr hu
  rw [hp] at h1
  cases h1
  obtain rfl := h3 rfl
  exact ⟨_, hp, hu'⟩
theorem live_sl (hI : Inv G N γ σ w) {i g off len m o' : Nat} {own : Bool} {u : Value} (hu : RepC γ w (.sl i g off len m own) u) (h : eqLive σ (.ptr i g o') = true) : ∃ blk cap o', γ.O[i]? = some (blk, g) ∧ u = .slice (some ⟨blk, o', none⟩) len cap ∧ (0 < cap → o' = off) ∧ (own = true → sizeOf? w blk = some (off + cap * m)) ∧ len ≤ cap ∧ cap ≤ maxLen := by
  obtain ⟨cs, e, z, blk, ho, hp⟩ := live_obj hI h
  obtain ⟨b', o', cap, blk', g', hu', h1, h2, h3, h4, h5, h6⟩ := repC_sl hu
  rw [hp] at h1
  cases h1
  obtain ⟨rfl, a2⟩ := h6 rfl
  exact ⟨_, cap, o', hp, hu', h5, a2, h3, h4⟩

theorem sim_pick {x y z : Operand} {s1 s2 s3 : S} (ho : o.op = .pick x y z) (hx : RepV γ w (src e s1) (a.eval x)) (hy : RepV γ w (src e s2) (a.eval y)) (hz : RepV γ w (src e s3) (a.eval z)) (hI : Inv G N γ σ w)
    (h : evalOp (.pick s1 s2 s3) e σ = some (v, σ1)) : OpOk P G N γ σ w ((execOp a.eval o).run P w) v σ1 := by
  simp only [evalOp] at h
  split at h
  · rename_i b e1
    rw [e1] at hx
    have hx' := repC_bool (repV_cell rfl hx)
    cases h
    refine ok_pure hI (u := if b then a.eval y else a.eval z) (by simp [execOp, ho, hx', asBool]) ?_
    cases b
    · exact hz
    · exact hy
  · cases h

theorem sim_un {op : UnOp} {t : TypeId} {x : Operand} {s : S} (ho : o.op = .unOp op t x) (hx : RepV γ w (src e s) (a.eval x)) (hI : Inv G N γ σ w)
    (h : evalOp (.un op s) e σ = some (v, σ1)) : OpOk P G N γ σ w ((execOp a.eval o).run P w) v σ1 := by
  simp only [evalOp, Option.map_eq_some_iff] at h
  obtain ⟨v', h, h2⟩ := h
  cases h2
  unfold unV at h
  split at h
  · rename_i k n e1
    rw [e1] at hx
    have hx' := repC_int (repV_cell rfl hx)
    cases h
    exact ok_pure hI (by simp [execOp, ho, hx', Op.unary, Op.intArith]) int_rep
  · rename_i b e1
    rw [e1] at hx
    have hx' := repC_bool (repV_cell rfl hx)
    cases h
    exact ok_pure hI (by simp [execOp, ho, hx', Op.unary]) bool_rep
  · rename_i k n e1
    rw [e1] at hx
    have hx' := repC_int (repV_cell rfl hx)
    cases h
    exact ok_pure hI (by simp [execOp, ho, hx', Op.unary, Op.intBits]; try rfl) int_rep
  · cases h

theorem sim_cvi {k : IntKind} {t1 t2 : TypeId} {d1 : TypeDesc} {x : Operand} {s : S} (ho : o.op = .convert t1 t2 x) (h1 : P.underlying t1 = some d1) (h2 : P.underlying t2 = some (.int k)) (hx : RepV γ w (src e s) (a.eval x)) (hI : Inv G N γ σ w)
    (h : evalOp (.cvi k s) e σ = some (v, σ1)) : OpOk P G N γ σ w ((execOp a.eval o).run P w) v σ1 := by
  simp only [evalOp] at h
  split at h
  · rename_i k' n e1
    rw [e1] at hx
    have hx' := repC_int (repV_cell rfl hx)
    cases h
    exact ok_pure hI (by simp [execOp, ho, hx', convert, run_underlying h1, run_underlying h2, Conv.intToInt]) int_rep
  · cases h

theorem sim_cvs {t1 t2 : TypeId} {d1 : TypeDesc} {x : Operand} {s : S} (ho : o.op = .convert t1 t2 x) (h1 : P.underlying t1 = some d1) (h2 : P.underlying t2 = some .string) (hx : RepV γ w (src e s) (a.eval x)) (hI : Inv G N γ σ w)
    (h : evalOp (.cvs s) e σ = some (v, σ1)) : OpOk P G N γ σ w ((execOp a.eval o).run P w) v σ1 := by
  simp only [evalOp] at h
  split at h
  · rename_i l e1
    rw [e1] at hx
    obtain ⟨hx', hl⟩ := repC_str (repV_cell rfl hx)
    cases h
    exact ok_pure hI (by simp [execOp, ho, hx', convert, run_underlying h1, run_underlying h2]) (str_rep hl)
  · cases h

theorem sim_chk {x : Operand} {s : S} (ho : o.op = .nilCheck x) (hx : RepV γ w (src e s) (a.eval x)) (hI : Inv G N γ σ w)
    (h : evalOp (.chk s) e σ = some (v, σ1)) : OpOk P G N γ σ w ((execOp a.eval o).run P w) v σ1 := by
  simp only [evalOp] at h
  split at h
  · rename_i r off e1
    rw [e1] at hx
    have hx' := repV_cell rfl hx
    cases h
    cases hu : a.eval x with
    | pointer p =>
      cases p with
      | some p => exact ok_pure hI (u := .pointer (some p)) (by simp [execOp, ho, hu]) (by rw [← hu]; exact hx)
      | none => rw [hu] at hx'; cases hx' with | row h => cases h
    | _ => rw [hu] at hx'; cases hx' with | row h => cases h
  · rename_i b g off e1
    rw [e1] at hx
    obtain ⟨b', _, _, hu, _⟩ := repC_ptr (repV_cell rfl hx)
    cases h
    exact ok_pure hI (u := .pointer (some ⟨b', off, none⟩)) (by simp [execOp, ho, hu]) (by rw [← hu]; exact hx)
  · cases h

theorem sim_idx {t : TypeId} {x y : Operand} {s1 s2 : S} (ho : o.op = .index t x y) (ht : P.underlying t = some .string) (hx : RepV γ w (src e s1) (a.eval x)) (hy : RepV γ w (src e s2) (a.eval y)) (hI : Inv G N γ σ w)
    (h : evalOp (.idx s1 s2) e σ = some (v, σ1)) : OpOk P G N γ σ w ((execOp a.eval o).run P w) v σ1 := by
  simp only [evalOp] at h
  split at h
  · rename_i l e1
    rw [e1] at hx
    obtain ⟨hx', hl⟩ := repC_str (repV_cell rfl hx)
    simp only [Option.map_eq_some_iff] at h
    obtain ⟨c, hc, h⟩ := h
    cases h
    unfold atI at hc
    split at hc
    · rename_i k n e2
      rw [e2] at hy
      have hy' := repC_int (repV_cell rfl hy)
      split at hc
      · rename_i hn
        have hlt : n.toNat < l.length := (List.getElem?_eq_some_iff.1 hc).1
        have hb : (⟨l.toArray⟩ : ByteArray)[n.toNat]? = some c := by
          rw [getElem?_pos (⟨l.toArray⟩ : ByteArray) n.toNat (by rw [mk_size]; exact hlt)]
          congr 1
          exact (List.getElem?_eq_some_iff.1 hc).2
        exact ok_pure hI (by simp [execOp, ho, hx', hy', Instr.index, asIntOf, run_underlying ht, hn, hb]) int_rep
      · cases hc
    · cases hc
  · cases h

theorem getD_lt {α : Type} {l : List α} {i : Nat} {x d : α} (h : l[i]? = some x) : l.getD i d = x ∧ i < l.length := ⟨by simp [List.getD_eq_getElem?_getD, h], (List.getElem?_eq_some_iff.1 h).1⟩

theorem sim_ext {x : Operand} {i : Nat} {s : S} (ho : o.op = .extract x i) (hx : RepV γ w (src e s) (a.eval x)) (hI : Inv G N γ σ w)
    (h : evalOp (.ext i s) e σ = some (v, σ1)) : OpOk P G N γ σ w ((execOp a.eval o).run P w) v σ1 := by
  simp only [evalOp] at h
  split at h
  · rename_i vs e1
    rw [e1] at hx
    obtain ⟨us, hu, hl, hr⟩ := repV_tup hx
    simp only [Option.map_eq_some_iff] at h
    obtain ⟨c, hc, h⟩ := h
    cases h
    obtain ⟨hg, hlt⟩ := getD_lt (d := V.und) hc
    have h1 := hr i hlt
    rw [hg] at h1
    have hus : us[i]? = some (us.getD i undef) := by
      rw [List.getD_eq_getElem?_getD, List.getElem?_eq_getElem (by omega)]; rfl
    generalize us.getD i undef = z at h1 hus
    exact ok_pure hI (u := z) (by simp [execOp, ho, hu, Instr.extract, hus]) (.one h1)
  · cases h

theorem sim_mx {x y : Operand} {s1 s2 : S} {ts : Array TypeId} (ho : o.op = .call { callee := .builtin .max, args := #[x, y], argTypes := ts }) (hx : RepV γ w (src e s1) (a.eval x)) (hy : RepV γ w (src e s2) (a.eval y)) (hI : Inv G N γ σ w)
    (h : evalOp (.mx s1 s2) e σ = some (v, σ1)) : OpOk P G N γ σ w ((execOp a.eval o).run P w) v σ1 := by
  simp only [evalOp] at h
  split at h
  · rename_i k m k' n e1 e2
    rw [e1] at hx
    rw [e2] at hy
    have hx' := repC_int (repV_cell rfl hx)
    have hy' := repC_int (repV_cell rfl hy)
    split at h
    · rename_i hk
      subst hk
      cases h
      have hm : (if n > m then n else m) = max m n := by
        rw [Int.max_def]; split <;> split <;> omega
      have hr : (execOp a.eval o).run P w = .ok (.value (.int k (if n > m then n else m))) w := by simp [execOp, ho, hx', hy', resolve, invoke, builtin, Builtin.max_, Builtin.max2]
      rw [hm] at hr
      exact ok_pure hI hr int_rep
    · cases h
  · cases h
theorem sim_mn {x y : Operand} {s1 s2 : S} {ts : Array TypeId} (ho : o.op = .call { callee := .builtin .min, args := #[x, y], argTypes := ts }) (hx : RepV γ w (src e s1) (a.eval x)) (hy : RepV γ w (src e s2) (a.eval y)) (hI : Inv G N γ σ w)
    (h : evalOp (.mn s1 s2) e σ = some (v, σ1)) : OpOk P G N γ σ w ((execOp a.eval o).run P w) v σ1 := by
  simp only [evalOp] at h
  split at h
  · rename_i k m k' n e1 e2
    rw [e1] at hx
    rw [e2] at hy
    have hx' := repC_int (repV_cell rfl hx)
    have hy' := repC_int (repV_cell rfl hy)
    split at h
    · rename_i hk
      subst hk
      cases h
      have hm : (if n < m then n else m) = min m n := by
        rw [Int.min_def]; split <;> split <;> omega
      have hr : (execOp a.eval o).run P w = .ok (.value (.int k (if n < m then n else m))) w := by simp [execOp, ho, hx', hy', resolve, invoke, builtin, Builtin.min_, Builtin.min2]
      rw [hm] at hr
      exact ok_pure hI hr int_rep
    · cases h
  · cases h

theorem sim_lens {t : TypeId} {x : Operand} {s : S} (ho : o.op = .call { callee := .builtin .len, args := #[x], argTypes := #[t] }) (ht : P.underlying t = some .string) (hx : RepV γ w (src e s) (a.eval x)) (hI : Inv G N γ σ w)
    (h : evalOp (.lens s) e σ = some (v, σ1)) : OpOk P G N γ σ w ((execOp a.eval o).run P w) v σ1 := by
  simp only [evalOp] at h
  split at h
  · rename_i l e1
    rw [e1] at hx
    obtain ⟨hx', hl⟩ := repC_str (repV_cell rfl hx)
    cases h
    exact ok_pure hI (by simp [execOp, ho, hx', resolve, invoke, builtin, Builtin.len_, run_underlying ht, goInt, mk_size]) int_rep
  · cases h
theorem sim_len {t el : TypeId} {x : Operand} {s : S} (ho : o.op = .call { callee := .builtin .len, args := #[x], argTypes := #[t] }) (ht : P.underlying t = some (.slice el)) (hx : RepV γ w (src e s) (a.eval x)) (hI : Inv G N γ σ w)
    (h : evalOp (.len s) e σ = some (v, σ1)) : OpOk P G N γ σ w ((execOp a.eval o).run P w) v σ1 := by
  simp only [evalOp] at h
  split at h
  · rename_i e1
    rw [e1] at hx
    have hx' := repC_nils (repV_cell rfl hx)
    cases h
    exact ok_pure hI (by simp [execOp, ho, hx', resolve, invoke, builtin, Builtin.len_, run_underlying ht, goInt]) int_rep
  · rename_i t' xs e1
    rw [e1] at hx
    obtain ⟨ad, cap, hx', _⟩ := repC_lst (repV_cell rfl hx)
    cases h
    exact ok_pure hI (by simp [execOp, ho, hx', resolve, invoke, builtin, Builtin.len_, run_underlying ht, goInt]) int_rep
  · rename_i i g off len m own e1
    rw [e1] at hx
    obtain ⟨b', o', cap, _, _, hx', _⟩ := repC_sl (repV_cell rfl hx)
    cases h
    exact ok_pure hI (by simp [execOp, ho, hx', resolve, invoke, builtin, Builtin.len_, run_underlying ht, goInt]) int_rep
  · cases h
end Go.Proofs.YticpkkjnajmpoaaGreatDoor.KM
