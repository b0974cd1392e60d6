/- One check for all operations, and that memory follows. -/
import Derived.Test.YticpkkjnajmpoaaGreatDoorKm
set_option linter.all false
namespace Go.Proofs.YticpkkjnajmpoaaGreatDoor.KM
open Go Go.RowKit
variable {P : Program} {G : List (Nat × List V)} {N : Nat} {γ : Gh} {σ σ1 : St} {w : World} {e : Env} {a : Act} {o : Oper} {v : V}

/-! The check -/
def zeroOk (P : Program) (zs : List V) (t : TypeId) : Bool :=
  match P.info? t with
  | some i => match i.zero with
    | some z => constRow zs z.cells.toList
    | none => false
  | none => false
def sizeOk (P : Program) (t : TypeId) (n : Nat) : Bool := match P.info? t with
  | some i => i.size == n
  | none => false
theorem zeroOk_some {zs : List V} {t : TypeId} (h : zeroOk P zs t = true) : ∃ fi z, P.info? t = some fi ∧ fi.zero = some z ∧ constRow zs z.cells.toList = true := by
  unfold zeroOk at h
  split at h
  · rename_i fi hfi
    split at h
    · rename_i z hz
      exact ⟨fi, z, hfi, hz, h⟩
    · cases h
  · cases h
theorem sizeOk_some {t : TypeId} {n : Nat} (h : sizeOk P t n = true) : ∃ fi, P.info? t = some fi ∧ fi.size = n := by
  unfold sizeOk at h
  split at h
  · rename_i fi hfi
    exact ⟨fi, hfi, eq_of_beq h⟩
  · cases h
def okPs (G : List (Nat × List V)) (places : List (Nat × Nat)) : List (Nat × Nat × S) → List (Nat × Operand) → Bool
  | [], [] => true
  | p :: ps, q :: qs => (match places[q.1]? with
      | some (o, n) => o == p.1 && n == p.2.1
      | none => false) && (okS G p.2.2 q.2 && okPs G places ps qs)
  | _, _ => false
def okRs (G : List (Nat × List V)) : List (Nat × S) → List (Nat × Operand) → Bool
  | [], [] => true
  | p :: ps, q :: qs => p.1 == q.1 && (okS G p.2 q.2 && okRs G ps qs)
  | _, _ => false
theorem okPs_get {places : List (Nat × Nat)} : ∀ {ps : List (Nat × Nat × S)} {qs : List (Nat × Operand)}, okPs G places ps qs = true → ps.length = qs.length ∧ ∀ (i : Nat) (p : Nat × Nat × S) (q : Nat × Operand), ps[i]? = some p → qs[i]? = some q → places[q.1]? = some (p.1, p.2.1) ∧ okS G p.2.2 q.2 = true
  | [], [], _ => ⟨rfl, fun i p q h => by simp at h⟩
  | p :: ps, q :: qs, h => by
    simp only [okPs, Bool.and_eq_true] at h
    obtain ⟨h1, h2, h3⟩ := h
    obtain ⟨l, g⟩ := okPs_get h3
    refine ⟨by simp [l], fun i p' q' hp hq => ?_⟩
    cases i with
    | zero =>
      simp at hp hq
      subst hp hq
      split at h1
      · rename_i o n hpl
        simp only [Bool.and_eq_true, beq_iff_eq] at h1
        exact ⟨by rw [hpl, h1.1, h1.2], h2⟩
      · cases h1
    | succ i => exact g i p' q' (by simpa using hp) (by simpa using hq)
  | [], _ :: _, h => by simp [okPs] at h
  | _ :: _, [], h => by simp [okPs] at h
theorem okRs_get : ∀ {ps : List (Nat × S)} {qs : List (Nat × Operand)}, okRs G ps qs = true → ps.length = qs.length ∧ ∀ (i : Nat) (p : Nat × S) (q : Nat × Operand), ps[i]? = some p → qs[i]? = some q → p.1 = q.1 ∧ okS G p.2 q.2 = true
  | [], [], _ => ⟨rfl, fun i p q h => by simp at h⟩
  | p :: ps, q :: qs, h => by
    simp only [okRs, Bool.and_eq_true, beq_iff_eq] at h
    obtain ⟨h1, h2, h3⟩ := h
    obtain ⟨l, g⟩ := okRs_get h3
    refine ⟨by simp [l], fun i p' q' hp hq => ?_⟩
    cases i with
    | zero =>
      simp at hp hq
      subst hp hq
      exact ⟨h1, h2⟩
    | succ i => exact g i p' q' (by simpa using hp) (by simpa using hq)
  | [], _ :: _, h => by simp [okRs] at h
  | _ :: _, [], h => by simp [okRs] at h
def undIs (P : Program) (t : TypeId) (f : TypeDesc → Bool) : Bool := match P.underlying t with
  | some d => f d
  | none => false
theorem undIs_some {t : TypeId} {f : TypeDesc → Bool} (h : undIs P t f = true) : ∃ d, P.underlying t = some d ∧ f d = true := by
  unfold undIs at h
  split at h
  · exact ⟨_, by assumption, h⟩
  · cases h
def isStr : TypeDesc → Bool
  | .string => true
  | _ => false
def isInt (k : IntKind) : TypeDesc → Bool
  | .int k' => decide (k = k')
  | _ => false
def okPa (G : List (Nat × List V)) (m : Nat) : List (Nat × Nat × S) → List (Nat × Operand) → Bool
  | [], [] => true
  | p :: ps, q :: qs => q.1 * m == p.1 && (m == p.2.1 && (okS G p.2.2 q.2 && okPa G m ps qs))
  | _, _ => false
theorem okPa_get {m : Nat} : ∀ {ps : List (Nat × Nat × S)} {qs : List (Nat × Operand)}, okPa G m ps qs = true → ps.length = qs.length ∧ ∀ (i : Nat) (p : Nat × Nat × S) (q : Nat × Operand), ps[i]? = some p → qs[i]? = some q → (q.1 * m, m) = (p.1, p.2.1) ∧ okS G p.2.2 q.2 = true
  | [], [], _ => ⟨rfl, fun i p q h => by simp at h⟩
  | p :: ps, q :: qs, h => by
    simp only [okPa, Bool.and_eq_true, beq_iff_eq] at h
    obtain ⟨h1, h2, h3, h4⟩ := h
    obtain ⟨l, g⟩ := okPa_get h4
    refine ⟨by simp [l], fun i p' q' hp hq => ?_⟩
    cases i with
    | zero =>
      simp at hp hq
      subst hp hq
      exact ⟨by rw [h1, h2], h3⟩
    | succ i => exact g i p' q' (by simpa using hp) (by simpa using hq)
  | [], _ :: _, h => by simp [okPa] at h
  | _ :: _, [], h => by simp [okPa] at h
def okSs (G : List (Nat × List V)) : List S → List Operand → Bool
  | [], [] => true
  | s :: ss, x :: xs => okS G s x && okSs G ss xs
  | _, _ => false
theorem okSs_rep (hE : RepE γ w e a.tmps) (hI : Inv G N γ σ w) : ∀ {ss : List S} {xs : List Operand}, okSs G ss xs = true → ss.length = xs.length ∧ ∀ (i : Nat) s x, ss[i]? = some s → xs[i]? = some x → RepV γ w (src e s) (a.eval x)
  | [], [], _ => ⟨rfl, fun i s x h => by simp at h⟩
  | s :: ss, x :: xs, h => by
    simp only [okSs, Bool.and_eq_true] at h
    obtain ⟨l, g⟩ := okSs_rep hE hI h.2
    refine ⟨by simp [l], fun i s' x' hs hx => ?_⟩
    cases i with
    | zero => simp at hs hx; subst hs hx; exact okS_rep h.1 hE hI
    | succ i => exact g i s' x' (by simpa using hs) (by simpa using hx)
  | [], _ :: _, h => by simp [okSs] at h
  | _ :: _, [], h => by simp [okSs] at h
def okMap (P : Program) (f : TypeId → TypeId → Bool) : TypeDesc → Bool
  | .map k e => f k e
  | _ => false
def oneZero (P : Program) (z : V) (t : TypeId) : Bool := match P.info? t with
  | some i => match i.zero with
    | some u => constB z u
    | none => false
  | none => false
theorem oneZero_some {z : V} {t : TypeId} (h : oneZero P z t = true) : ∃ fi u, P.info? t = some fi ∧ fi.zero = some u ∧ constB z u = true := by
  unfold oneZero at h
  split at h
  · rename_i fi hfi
    split at h
    · rename_i u hu
      exact ⟨fi, u, hfi, hu, h⟩
    · cases h
  · cases h
def okBuild (P : Program) (G : List (Nat × List V)) (zs : List V) (ps : List (Nat × Nat × S)) (t : TypeId) (parts : List (Nat × Operand)) : TypeDesc → Bool
  | .struct fs => match fs.toList.mapM (fun f => (P.info? f.type).map fun i => (f.offset, i.size)) with
    | some places => okPs G places ps parts
    | none => false
  | .array _ el => match P.info? el with
    | some fe => okPa G fe.size ps parts
    | none => false
  | _ => false
def okFad (P : Program) (off i : Nat) : TypeDesc → Bool
  | .struct fs => match fs[i]? with
    | some f => f.offset == off && (match P.info? f.type with
      | some fi => fi.size != 0
      | none => false)
    | none => false
  | _ => false
def okFld (P : Program) (off n : Nat) (one : Bool) (i : Nat) : TypeDesc → Bool
  | .struct fs => match fs[i]? with
    | some f => f.offset == off && (sizeOk P f.type n && undIs P f.type (fun d => aggB d == !one))
    | none => false
  | _ => false
def okIda (P : Program) (len m : Nat) (one : Bool) : TypeDesc → Bool
  | .array len' el => len == len' && (sizeOk P el m && undIs P el (fun d => aggB d == !one))
  | _ => false
def okSl (P : Program) (f : TypeId → Bool) : TypeDesc → Bool
  | .slice el => f el
  | _ => false
def okEl (P : Program) (bytes m : Nat) (el : TypeId) : Bool := match P.info? el with
  | some fi => fi.size == m && (fi.bytes == bytes && (decide (0 < m) && (decide (0 < bytes) && (match fi.zero with
    | some z => z.cells.size == m
    | none => false))))
  | none => false

def okOp (P : Program) (G : List (Nat × List V)) (ao : AO) (op : Op) : Bool :=
  match ao, op with
  | .mov s, .move x => okS G s x
  | .mov s, .assign x => okS G s x
  | .pick s1 s2 s3, .pick x y z => okS G s1 x && (okS G s2 y && okS G s3 z)
  | .new t' zs, .alloc t => t' == t && zeroOk P zs t
  | .box t' s, .box t x => t' == t && okS G s x
  | .build zs ps, .build t parts => zeroOk P zs t && undIs P t (okBuild P G zs ps t parts.toList)
  | .rows n zs ps, .buildSlice t n' parts => n == n' && (undIs P t (okSl P fun el => zeroOk P zs el && sizeOk P el zs.length) && (decide (0 < zs.length) && (decide (n * zs.length ≤ 16777216) && okRs G ps parts.toList)))
  | .rowf n zs ps, .buildSlice t n' parts => n == n' && (undIs P t (okSl P fun el => zeroOk P zs el && sizeOk P el zs.length) && (decide (0 < zs.length) && (decide (n * zs.length ≤ 16777216) && okRs G ps parts.toList)))
  | .rowo el' n zs ps, .buildSlice t n' parts => n == n' && (undIs P t (okSl P fun el => el' == el && (zeroOk P zs el && sizeOk P el zs.length)) && (decide (0 < zs.length) && (decide (n * zs.length ≤ 16777216) && okRs G ps parts.toList)))
  | .mk el' bytes zs s1 s2, .makeSlice t x y => okS G s1 x && (okS G s2 y && (decide (0 < zs.length) && undIs P t (okSl P fun el => el' == el && (zeroOk P zs el && (sizeOk P el zs.length && (match P.info? el with
    | some fi => fi.bytes == bytes && decide (0 < bytes)
    | none => false))))))
  | .load n one s, .load t x => okS G s x && (sizeOk P t n && undIs P t (fun d => aggB d == !one))
  | .store n s1 s2, .store t x y => okS G s1 x && (okS G s2 y && sizeOk P t n)
  | .chk s, .nilCheck x => okS G s x
  | .bin b s1 s2, .binOp b' _ x y _ => decide (b = b') && (okS G s1 x && okS G s2 y)
  | .eq k neg s1 s2, .binOp b' t x y _ => decide (b' = (if neg then BinOp.neq else BinOp.eql)) && (okEq P k t x y && (okS G s1 x && okS G s2 y))
  | .un b s, .unOp b' _ x => decide (b = b') && okS G s x
  | .cvi k s, .convert t1 t2 x => okS G s x && ((P.underlying t1).isSome && undIs P t2 (isInt k))
  | .cvs s, .convert t1 t2 x => okS G s x && ((P.underlying t1).isSome && undIs P t2 isStr)
  | .cvl s, .convert t1 t2 x => t1 == t2 && (okS G s x && undIs P t1 (okSl P fun el => undIs P el (isInt .u8)))
  | .slcs s lo hi, .slice t x lo' hi' mx => mx.isNone && (okS G s x && (okSo G lo lo' && (okSo G hi hi' && undIs P t isStr)))
  | .slc m s lo hi mx, .slice t x lo' hi' mx' => okS G s x && (okSo G lo lo' && (okSo G hi hi' && (okSo G mx mx' && ((!mx.isSome || hi.isSome) && (m != 0 && undIs P t (okSl P fun el => sizeOk P el m))))))
  | .slca len m s lo hi, .slice t x lo' hi' mx => mx.isNone && (okS G s x && (okSo G lo lo' && (okSo G hi hi' && (decide (len ≤ 16777216) && undIs P t (fun d => match d with
    | .array l el => l == len && sizeOk P el m
    | _ => false)))))
  | .mkf f as cs, .makeFunc (.func f') first captured => f == f' && (okSs G as first.toList && okSs G cs captured.toList)
  | .mmk, .makeMap _ none => true
  | .mlk z s1 s2, .lookup t x y false => okS G s1 x && (okS G s2 y && undIs P t (okMap P fun k el => undIs P k isStr && oneZero P z el))
  | .mup s1 s2 s3, .mapUpdate t x y z => okS G s1 x && (okS G s2 y && (okS G s3 z && undIs P t (okMap P fun k _ => undIs P k isStr)))
  | .fld off n one s, .field t x i => okS G s x && undIs P t (okFld P off n one i)
  | .ida len m one s1 s2, .index t x y => okS G s1 x && (okS G s2 y && undIs P t (okIda P len m one))
  | .fad off s, .fieldAddr t x i => okS G s x && undIs P t (okFad P off i)
  | .iad m s1 s2, .indexAddr t x y => okS G s1 x && (okS G s2 y && undIs P t (okSl P fun el => sizeOk P el m))
  | .iar len m s1 s2, .indexAddr t x y => okS G s1 x && (okS G s2 y && undIs P t (fun d => match d with
    | .array l el => l == len && sizeOk P el m
    | _ => false))
  | .idx s1 s2, .index t x y => okS G s1 x && (okS G s2 y && undIs P t isStr)
  | .ext i s, .extract x i' => i == i' && okS G s x
  | .len s, .call { callee := .builtin .len, args, argTypes } => match args.toList, argTypes.toList with
    | [x], [t] => okS G s x && undIs P t (okSl P fun _ => true)
    | _, _ => false
  | .lens s, .call { callee := .builtin .len, args, argTypes } => match args.toList, argTypes.toList with
    | [x], [t] => okS G s x && undIs P t isStr
    | _, _ => false
  | .app bytes m s1 s2, .call { callee := .builtin .append, args, argTypes } => match args.toList, argTypes.toList with
    | [x, y], [t, u] => t == u && (okS G s1 x && (okS G s2 y && undIs P t (okSl P fun el => el == m.2 && okEl P bytes m.1 el)))
    | _, _ => false
  | .apps ty s1 s2, .call { callee := .builtin .append, args, argTypes } => match args.toList, argTypes.toList with
    | [x, y], [t, u] => okS G s1 x && (okS G s2 y && (undIs P t (okSl P fun el => el == ty && okEl P 1 1 el) && undIs P u isStr))
    | _, _ => false
  | .mx s1 s2, .call { callee := .builtin .max, args, .. } => match args.toList with
    | [x, y] => okS G s1 x && okS G s2 y
    | _ => false
  | .mn s1 s2, .call { callee := .builtin .min, args, .. } => match args.toList with
    | [x, y] => okS G s1 x && okS G s2 y
    | _ => false
  | _, _ => false

theorem arr_of {α : Type} {xs : Array α} {l : List α} (h : xs.toList = l) : xs = l.toArray := by subst h; simp
theorem okEl_some {bytes m : Nat} {el : TypeId} (h : okEl P bytes m el = true) : ∃ fi z, P.info? el = some fi ∧ fi.size = m ∧ fi.bytes = bytes ∧ 0 < m ∧ 0 < bytes ∧ fi.zero = some z ∧ z.cells.size = m := by
  unfold okEl at h
  split at h
  · rename_i fi hfi
    simp only [Bool.and_eq_true, beq_iff_eq, decide_eq_true_eq] at h
    obtain ⟨h1, h2, h3, h4, h5⟩ := h
    split at h5
    · rename_i z hz
      exact ⟨fi, z, hfi, h1, h2, h3, h4, hz, eq_of_beq h5⟩
    · cases h5
  · cases h

theorem opSim {ao : AO} (hok : okOp P G ao o.op = true) (hE : RepE γ w e a.tmps) (hI : Inv G N γ σ w) (h : evalOp ao e σ = some (v, σ1)) : OpOk P G N γ σ w ((execOp a.eval o).run P w) v σ1 := by
  have R := fun {s : S} {x : Operand} (h : okS G s x = true) => okS_rep (a := a) h hE hI
  generalize ho : o.op = op at hok
  unfold okOp at hok
  split at hok
  · -- move
    simp only [evalOp] at h; cases h
    exact ok_pure hI (by simp [execOp, ho]) (R hok)
  · simp only [evalOp] at h; cases h
    exact ok_pure hI (by simp [execOp, ho]) (R hok)
  · simp only [Bool.and_eq_true] at hok
    exact sim_pick ho (R hok.1) (R hok.2.1) (R hok.2.2) hI h
  · simp only [Bool.and_eq_true, beq_iff_eq] at hok
    obtain ⟨rfl, hok⟩ := hok
    obtain ⟨fi, z, h1, h2, h3⟩ := zeroOk_some hok
    exact sim_new ho h1 h2 h3 hI h
  · simp only [Bool.and_eq_true, beq_iff_eq] at hok
    obtain ⟨rfl, hok⟩ := hok
    exact sim_box ho (R hok) hI h
  · simp only [Bool.and_eq_true] at hok
    obtain ⟨fi, z, h1, h2, h3⟩ := zeroOk_some hok.1
    obtain ⟨d, hd, hb⟩ := undIs_some hok.2
    unfold okBuild at hb
    split at hb
    · split at hb
      · rename_i places hpl
        obtain ⟨l, g⟩ := okPs_get hb
        exact sim_build ho hd h1 h2 h3 hpl (by simpa using l) (fun i p q hp hq => by
          obtain ⟨g1, g2⟩ := g i p q hp (by simpa using hq)
          exact ⟨g1, R g2⟩) hI h
      · cases hb
    · split at hb
      · rename_i fe hfe
        obtain ⟨l, g⟩ := okPa_get hb
        exact sim_builda ho hd h1 h2 h3 hfe (by simpa using l) (fun i p q hp hq => by
          obtain ⟨g1, g2⟩ := g i p q hp (by simpa using hq)
          exact ⟨g1, R g2⟩) hI h
      · cases hb
    · cases hb
  · simp only [Bool.and_eq_true, beq_iff_eq, decide_eq_true_eq] at hok
    obtain ⟨rfl, hd, hm, hb, hr⟩ := hok
    obtain ⟨d, hd, hs⟩ := undIs_some hd
    unfold okSl at hs
    split at hs
    · simp only [Bool.and_eq_true] at hs
      obtain ⟨fi, z, h1, h2, h3⟩ := zeroOk_some hs.1
      obtain ⟨fi', h1', h4⟩ := sizeOk_some hs.2
      rw [h1] at h1'; cases h1'
      obtain ⟨l, g⟩ := okRs_get hr
      exact sim_rows ho hd h1 h2 h3 h4 hm hb (by simpa using l) (fun i p q hp hq => by
        obtain ⟨g1, g2⟩ := g i p q hp (by simpa using hq)
        exact ⟨g1, R g2⟩) hI h
    · cases hs
  · simp only [Bool.and_eq_true, beq_iff_eq, decide_eq_true_eq] at hok
    obtain ⟨rfl, hd, hm, hb, hr⟩ := hok
    obtain ⟨d, hd, hs⟩ := undIs_some hd
    unfold okSl at hs
    split at hs
    · simp only [Bool.and_eq_true] at hs
      obtain ⟨fi, z, h1, h2, h3⟩ := zeroOk_some hs.1
      obtain ⟨fi', h1', h4⟩ := sizeOk_some hs.2
      rw [h1] at h1'; cases h1'
      obtain ⟨l, g⟩ := okRs_get hr
      exact sim_rowf ho hd h1 h2 h3 h4 hm hb (by simpa using l) (fun i p q hp hq => by
        obtain ⟨g1, g2⟩ := g i p q hp (by simpa using hq)
        exact ⟨g1, R g2⟩) hI h
    · cases hs
  · simp only [Bool.and_eq_true, beq_iff_eq, decide_eq_true_eq] at hok
    obtain ⟨rfl, hd, hm, hb, hr⟩ := hok
    obtain ⟨d, hd, hs⟩ := undIs_some hd
    unfold okSl at hs
    split at hs
    · simp only [Bool.and_eq_true, beq_iff_eq] at hs
      obtain ⟨rfl, hs1, hs2⟩ := hs
      obtain ⟨fi, z, h1, h2, h3⟩ := zeroOk_some hs1
      obtain ⟨fi', h1', h4⟩ := sizeOk_some hs2
      rw [h1] at h1'; cases h1'
      obtain ⟨l, g⟩ := okRs_get hr
      exact sim_rowo ho hd h1 h2 h3 h4 hm hb (by simpa using l) (fun i p q hp hq => by
        obtain ⟨g1, g2⟩ := g i p q hp (by simpa using hq)
        exact ⟨g1, R g2⟩) hI h
    · cases hs
  · simp only [Bool.and_eq_true, beq_iff_eq, decide_eq_true_eq] at hok
    obtain ⟨k1, k2, hm, hd0⟩ := hok
    obtain ⟨d, hd, hs⟩ := undIs_some hd0
    clear hd0
    unfold okSl at hs
    split at hs
    · simp only [Bool.and_eq_true, beq_iff_eq] at hs
      obtain ⟨rfl, hs1, hs2, hs3⟩ := hs
      obtain ⟨fi, z, h1, h2, h3⟩ := zeroOk_some hs1
      obtain ⟨fi', h1', h4⟩ := sizeOk_some hs2
      rw [h1] at h1' hs3; cases h1'
      simp only [Bool.and_eq_true, beq_iff_eq, decide_eq_true_eq] at hs3
      obtain ⟨rfl, hby⟩ := hs3
      exact sim_mk ho hd h1 h2 h3 h4 hm hby (R k1) (R k2) hI h
    · cases hs
  · simp only [Bool.and_eq_true] at hok
    obtain ⟨fi, h1, h2⟩ := sizeOk_some hok.2.1
    obtain ⟨d, hd, hs⟩ := undIs_some hok.2.2
    exact sim_load ho hd (eq_of_beq hs) h1 h2 (R hok.1) hI h
  · simp only [Bool.and_eq_true] at hok
    obtain ⟨fi, h1, h2⟩ := sizeOk_some hok.2.2
    exact sim_store ho h1 h2 (R hok.1) (R hok.2.1) hI h
  · exact sim_chk ho (R hok) hI h
  · simp only [Bool.and_eq_true, decide_eq_true_eq] at hok
    obtain ⟨rfl, h1, h2⟩ := hok
    simp only [evalOp, Option.map_eq_some_iff] at h
    obtain ⟨v', h, h3⟩ := h
    cases h3
    exact sim_bin ho (R h1) (R h2) hI h
  · simp only [Bool.and_eq_true, decide_eq_true_eq] at hok
    obtain ⟨rfl, h1, h2, h3⟩ := hok
    exact sim_eq ho h1 (R h2) (R h3) hI h
  · simp only [Bool.and_eq_true, decide_eq_true_eq] at hok
    obtain ⟨rfl, h1⟩ := hok
    exact sim_un ho (R h1) hI h
  · simp only [Bool.and_eq_true] at hok
    obtain ⟨h1, h2, h3⟩ := hok
    obtain ⟨d1, hd1⟩ := Option.isSome_iff_exists.1 h2
    obtain ⟨d, hd, hs⟩ := undIs_some h3
    unfold isInt at hs
    split at hs
    · obtain rfl := of_decide_eq_true hs
      exact sim_cvi ho hd1 hd (R h1) hI h
    · cases hs
  · simp only [Bool.and_eq_true] at hok
    obtain ⟨h1, h2, h3⟩ := hok
    obtain ⟨d1, hd1⟩ := Option.isSome_iff_exists.1 h2
    obtain ⟨d, hd, hs⟩ := undIs_some h3
    unfold isStr at hs
    split at hs
    · exact sim_cvs ho hd1 hd (R h1) hI h
    · cases hs
  · simp only [Bool.and_eq_true, beq_iff_eq] at hok
    obtain ⟨rfl, h1, h2⟩ := hok
    obtain ⟨d, hd, hs⟩ := undIs_some h2
    unfold okSl at hs
    split at hs
    · obtain ⟨d2, hd2, hs2⟩ := undIs_some hs
      unfold isInt at hs2
      split at hs2
      · obtain rfl := of_decide_eq_true hs2
        exact sim_cvl ho hd hd2 (R h1) hI h
      · cases hs2
    · cases hs
  · simp only [Bool.and_eq_true, Option.isNone_iff_eq_none] at hok
    obtain ⟨rfl, h1, h2, h3, h4⟩ := hok
    obtain ⟨d, hd, hs⟩ := undIs_some h4
    unfold isStr at hs
    split at hs
    · exact sim_slcs ho hd h2 h3 (R h1) hE hI h
    · cases hs
  · simp only [Bool.and_eq_true, Bool.or_eq_true, Bool.not_eq_true'] at hok
    obtain ⟨h1, h2, h3, h4, h5, h7, h6⟩ := hok
    obtain ⟨d, hd, hs⟩ := undIs_some h6
    unfold okSl at hs
    split at hs
    · obtain ⟨fi, g1, g2⟩ := sizeOk_some hs
      subst g2
      exact sim_slc ho hd g1 h2 h3 h4 (fun h => by rcases h5 with h5 | h5 <;> simp_all) (by simpa using h7) (R h1) hE hI h
    · cases hs
  · simp only [Bool.and_eq_true, Option.isNone_iff_eq_none, decide_eq_true_eq] at hok
    obtain ⟨rfl, h1, h2, h3, h4, h5⟩ := hok
    obtain ⟨d, hd, hs⟩ := undIs_some h5
    split at hs
    · simp only [Bool.and_eq_true, beq_iff_eq] at hs
      obtain ⟨rfl, hs⟩ := hs
      obtain ⟨fi, g1, g2⟩ := sizeOk_some hs
      subst g2
      exact sim_slca ho hd g1 h2 h3 (by unfold maxLen; omega) (R h1) hE hI h
    · cases hs
  · simp only [Bool.and_eq_true, beq_iff_eq] at hok
    obtain ⟨rfl, h1, h2⟩ := hok
    exact sim_mkf ho (okSs_rep hE hI h1) (okSs_rep hE hI h2) hI h
  · exact sim_mmk ho hI h
  · simp only [Bool.and_eq_true] at hok
    obtain ⟨h1, h2, h3⟩ := hok
    obtain ⟨d, hd, hs⟩ := undIs_some h3
    unfold okMap at hs
    split at hs
    · simp only [Bool.and_eq_true] at hs
      obtain ⟨d2, hd2, hs2⟩ := undIs_some hs.1
      unfold isStr at hs2
      split at hs2
      · obtain ⟨fi, u, g1, g2, g3⟩ := oneZero_some hs.2
        exact sim_mlk ho hd hd2 g1 g2 g3 (R h1) (R h2) hI h
      · cases hs2
    · cases hs
  · simp only [Bool.and_eq_true] at hok
    obtain ⟨h1, h2, h3, h4⟩ := hok
    obtain ⟨d, hd, hs⟩ := undIs_some h4
    unfold okMap at hs
    split at hs
    · obtain ⟨d2, hd2, hs2⟩ := undIs_some hs
      unfold isStr at hs2
      split at hs2
      · exact sim_mup ho hd hd2 (R h1) (R h2) (R h3) hI h
      · cases hs2
    · cases hs
  · simp only [Bool.and_eq_true] at hok
    obtain ⟨d, hd, hs⟩ := undIs_some hok.2
    unfold okFld at hs
    split at hs
    · split at hs
      · rename_i f hf
        simp only [Bool.and_eq_true, beq_iff_eq] at hs
        obtain ⟨fi, g1, g2⟩ := sizeOk_some hs.2.1
        obtain ⟨d2, hd2, hs2⟩ := undIs_some hs.2.2
        exact sim_fld ho hd hf hs.1 hd2 (eq_of_beq hs2) g1 g2 (R hok.1) hI h
      · cases hs
    · cases hs
  · simp only [Bool.and_eq_true] at hok
    obtain ⟨d, hd, hs⟩ := undIs_some hok.2.2
    unfold okIda at hs
    split at hs
    · simp only [Bool.and_eq_true, beq_iff_eq] at hs
      obtain ⟨rfl, hs⟩ := hs
      obtain ⟨fi, g1, g2⟩ := sizeOk_some hs.1
      obtain ⟨d2, hd2, hs2⟩ := undIs_some hs.2
      exact sim_ida ho hd hd2 (eq_of_beq hs2) g1 g2 (R hok.1) (R hok.2.1) hI h
    · cases hs
  · simp only [Bool.and_eq_true] at hok
    obtain ⟨h1, h2⟩ := hok
    obtain ⟨d, hd, hs⟩ := undIs_some h2
    unfold okFad at hs
    split at hs
    · split at hs
      · rename_i f hf
        simp only [Bool.and_eq_true, beq_iff_eq] at hs
        obtain ⟨g1, g2⟩ := hs
        split at g2
        · rename_i fi hfi
          exact sim_fad ho hd hf g1 hfi (by simpa using g2) (R h1) hI h
        · cases g2
      · cases hs
    · cases hs
  · simp only [Bool.and_eq_true] at hok
    obtain ⟨h1, h2, h3⟩ := hok
    obtain ⟨d, hd, hs⟩ := undIs_some h3
    unfold okSl at hs
    split at hs
    · obtain ⟨fi, g1, g2⟩ := sizeOk_some hs
      exact sim_iad ho hd g1 g2 (R h1) (R h2) hI h
    · cases hs
  · simp only [Bool.and_eq_true] at hok
    obtain ⟨h1, h2, h3⟩ := hok
    obtain ⟨d, hd, hs⟩ := undIs_some h3
    split at hs
    · simp only [Bool.and_eq_true, beq_iff_eq] at hs
      obtain ⟨rfl, hs⟩ := hs
      obtain ⟨fi, g1, g2⟩ := sizeOk_some hs
      exact sim_iar ho hd g1 g2 (R h1) (R h2) hI h
    · cases hs
  · simp only [Bool.and_eq_true] at hok
    obtain ⟨h1, h2, h3⟩ := hok
    obtain ⟨d, hd, hs⟩ := undIs_some h3
    unfold isStr at hs
    split at hs
    · exact sim_idx ho hd (R h1) (R h2) hI h
    · cases hs
  · simp only [Bool.and_eq_true, beq_iff_eq] at hok
    obtain ⟨rfl, h1⟩ := hok
    exact sim_ext ho (R h1) hI h
  · split at hok
    · rename_i x t e1 e2
      rw [arr_of e1, arr_of e2] at ho
      simp only [Bool.and_eq_true] at hok
      obtain ⟨d, hd, hs⟩ := undIs_some hok.2
      unfold okSl at hs
      split at hs
      · exact sim_len ho hd (R hok.1) hI h
      · cases hs
    · cases hok
  · split at hok
    · rename_i x t e1 e2
      rw [arr_of e1, arr_of e2] at ho
      simp only [Bool.and_eq_true] at hok
      obtain ⟨d, hd, hs⟩ := undIs_some hok.2
      unfold isStr at hs
      split at hs
      · exact sim_lens ho hd (R hok.1) hI h
      · cases hs
    · cases hok
  · split at hok
    · rename_i x y t u e1 e2
      simp only [Bool.and_eq_true, beq_iff_eq] at hok
      obtain ⟨rfl, h1, h2, h3⟩ := hok
      rw [arr_of e1, arr_of e2] at ho
      obtain ⟨d, hd, hs⟩ := undIs_some h3
      unfold okSl at hs
      split at hs
      · simp only [Bool.and_eq_true, beq_iff_eq] at hs
        obtain ⟨g0, hs⟩ := hs
        obtain ⟨fi, z, g1, g2, g3, g4, g5, g6, g7⟩ := okEl_some hs
        rename_i el
        have em : (fi.size, el) = _ := Prod.ext g2 g0
        rw [← em, ← g3] at h
        rw [← g2] at g4 g7
        rw [← g3] at g5
        exact sim_app ho hd g1 g6 g7 g4 g5 (R h1) (R h2) hI h
      · cases hs
    · cases hok
  · split at hok
    · rename_i x y t u e1 e2
      simp only [Bool.and_eq_true] at hok
      obtain ⟨h1, h2, h3, h4⟩ := hok
      rw [arr_of e1, arr_of e2] at ho
      obtain ⟨d, hd, hs⟩ := undIs_some h3
      obtain ⟨d2, hd2, hs2⟩ := undIs_some h4
      unfold okSl at hs
      split at hs
      · unfold isStr at hs2
        split at hs2
        · simp only [Bool.and_eq_true, beq_iff_eq] at hs
          obtain ⟨g0, hs⟩ := hs
          obtain ⟨fi, z, g1, g2, g3, g4, g5, g6, g7⟩ := okEl_some hs
          rw [← g0] at h
          exact sim_apps ho hd hd2 g1 g6 g7 g2 g3 (R h1) (R h2) hI h
        · cases hs2
      · cases hs
    · cases hok
  · split at hok
    · rename_i x y e1
      rw [arr_of e1] at ho
      simp only [Bool.and_eq_true] at hok
      exact sim_mx ho (R hok.1) (R hok.2) hI h
    · cases hok
  · split at hok
    · rename_i x y e1
      rw [arr_of e1] at ho
      simp only [Bool.and_eq_true] at hok
      exact sim_mn ho (R hok.1) (R hok.2) hI h
    · cases hok
  · cases hok
end Go.Proofs.YticpkkjnajmpoaaGreatDoor.KM
