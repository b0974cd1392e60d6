/- Plain: what a shaped program is, as a value; sizes. -/
import Derived.Test.YtlehfgdhebapeaaDoorLc
import Derived.Test.YtlehfgdhebapeaaDoorKy
import Derived.Test.YtlehfgdhebapeaaDoorGg
import Derived.Test.YtlehfgdhebapeaaDoorGd
set_option linter.all false
namespace Go.Proofs.YtlehfgdhebapeaaDoor.KM
open Go
/-! shapes -/
def shH (op n : Int) (nm : List UInt8) (k : Nat) : Bool :=
  arE op == (k : Int) && ((op == 2 || op == 3) == !(nm == []) && ((!(op == 2 || op == 3) || isNameE nm) && (decide (0 ≤ n) && (op == 1 || n == 0))))
mutual
def shX : Xp → Bool
  | ⟨op, n, nm, _, _, l⟩ => shH op n nm l.length && shXs l
def shXs : List Xp → Bool
  | [] => true
  | x :: l => shX x && shXs l
end
theorem shxs_all : ∀ l : List Xp, shXs l = l.all shX
  | [] => rfl
  | x :: l => by rw [shXs, shxs_all l]; rfl
theorem shx_def (x : Xp) : shX x = (shH x.op x.n x.nm x.l.length && x.l.all shX) := by
  rw [← shxs_all]
  cases x
  rfl
def blankB (x : Xp) : Bool := x.op == 0 && (x.n == 0 && (x.nm == [] && x.l.isEmpty))
def shSH (s : Sp) : Bool :=
  decide (1 ≤ s.op) && (decide (s.op ≤ 15) && ((if namelessE s.op then s.nm == [] else isNameE s.nm) && ((if s.op = 15 then isNameE s.arg else s.arg == []) &&
    (decide (s.idx.length ≤ 1) && ((s.op == 1 || s.idx.isEmpty) && (s.idx.all shX && ((if valuedE s.op then shX s.ex else blankB s.ex) &&
      ((bodyE s.op || s.body.isEmpty) && (s.op == 2 || s.els.isEmpty)))))))))
mutual
def shS : Sp → Bool
  | ⟨op, line, nm, arg, iz, it, idx, ex, bz, bt, body, ez, et, els⟩ => shSH ⟨op, line, nm, arg, iz, it, idx, ex, bz, bt, body, ez, et, els⟩ && (shSs body && shSs els)
def shSs : List Sp → Bool
  | [] => true
  | x :: l => shS x && shSs l
end
theorem shss_all : ∀ l : List Sp, shSs l = l.all shS
  | [] => rfl
  | x :: l => by rw [shSs, shss_all l]; rfl
theorem shs_def (s : Sp) : shS s = (shSH s && (shSs s.body && shSs s.els)) := by
  cases s
  rfl
def shD (d : Dp) : Bool :=
  decide (1 ≤ d.kind) && (decide (d.kind ≤ 6) && (isNameE d.nm && (decide (0 ≤ d.size) && ((d.kind == 1 || d.size == 0) && ((if d.kind = 5 then isNameE d.on else d.on == []) &&
    (decide (-9223372036854775808 < d.init) && (d.init == 0 || (d.kind == 1 || d.kind == 2))))))))
def shT (t : Tp) : Bool := t.locals.all isNameE && (isNameE t.nm && shSs t.body)
def shG (p : Gp) : Bool := p.decls.all shD && (p.thrs.all shT && !p.thrs.isEmpty)
/-! what is in range -/
inductive RgX : Xp → Prop
  | mk {x : Xp} : -9223372036854775808 ≤ x.n ∧ x.n ≤ 9223372036854775807 → (∀ y ∈ x.l, RgX y) → RgX x
inductive RgS : Sp → Prop
  | mk {s : Sp} : (∀ x ∈ s.idx, RgX x) → RgX s.ex → (∀ y ∈ s.body, RgS y) → (∀ y ∈ s.els, RgS y) → RgS s
structure RgG (p : Gp) : Prop where
  decls : ∀ d ∈ p.decls, d.size ≤ 9223372036854775807 ∧ d.init ≤ 9223372036854775807
  thrs : ∀ t ∈ p.thrs, ∀ s ∈ t.body, RgS s
theorem two_of {α : Type} {l : List α} (h : l.length = 2) : ∃ a b, l = [a, b] := by
  match l, h with
  | [a, b], _ => exact ⟨a, b, rfl⟩
theorem she_of {x : Xp} (hb : RgX x) : shX x = true → ShE x := by
  induction hb with
  | @mk x hn _ ih =>
    intro h
    rw [shx_def] at h
    rcases x with ⟨op, n, nm, z, t, l⟩
    simp only [shH, Bool.and_eq_true, List.all_eq_true, beq_iff_eq, decide_eq_true_eq, Bool.or_eq_true, Bool.not_eq_true'] at h hn ih
    obtain ⟨⟨ha, hnm, hi, h0, hop⟩, hl⟩ := h
    have e1 : ¬(op = 2 ∨ op = 3) → nm = [] := fun e => by
      have : ((op == 2 || op == 3) : Bool) = false := by simpa [not_or] using e
      rw [this] at hnm
      simpa using hnm.symm
    have e2 : op = 2 ∨ op = 3 → isNameE nm = true := fun e => by
      have : ((op == 2 || op == 3) : Bool) = true := by simpa using e
      rw [this] at hi
      simpa using hi
    unfold arE at ha
    split at ha
    · rename_i ho
      have : l = [] := List.length_eq_zero_iff.1 (by omega)
      subst this
      rcases ho with rfl | rfl
      · rw [e1 (by omega)]
        exact .num ⟨h0, hn.2⟩
      · have : n = 0 := by omega
        subst this
        exact .name (e2 (by omega))
    · split at ha
      · rename_i ho
        obtain ⟨a, rfl⟩ := List.length_eq_one_iff.1 (show l.length = 1 by omega)
        have : n = 0 := by omega
        subst this
        have hA := ih a (by simp) (hl a (by simp))
        rcases (show op = 3 ∨ op = 4 ∨ op = 5 by omega) with rfl | h4
        · exact .idx (e2 (by omega)) hA
        · rw [e1 (by omega)]
          exact .un h4 hA
      · split at ha
        · rename_i ho
          obtain ⟨a, b, rfl⟩ := two_of (show l.length = 2 by omega)
          have : n = 0 := by omega
          subst this
          rw [e1 (by omega)]
          exact .bin ho (ih a (by simp) (hl a (by simp))) (ih b (by simp) (hl b (by simp)))
        · omega
theorem blank_of {x : Xp} (h : blankB x = true) : blankX x := by
  simp only [blankB, Bool.and_eq_true, beq_iff_eq, List.isEmpty_iff] at h
  exact h
theorem shs_of {s : Sp} (hb : RgS s) : shS s = true → ShS s := by
  induction hb with
  | @mk s h1 h2 h3 h4 ih3 ih4 =>
    intro h
    rw [shs_def] at h
    simp only [shSH, shss_all, Bool.and_eq_true, List.all_eq_true, beq_iff_eq, decide_eq_true_eq, Bool.or_eq_true, List.isEmpty_iff] at h
    obtain ⟨⟨a1, a2, a3, a4, a5, a6, a7, a8, a9, a10⟩, a11, a12⟩ := h
    refine .mk ⟨a1, a2⟩ (fun e => ?_) (fun e => ?_) (fun e => ?_) (fun e => ?_) a5 (fun e => a6.resolve_left e) (fun x hx => she_of (h1 x hx) (a7 x hx)) (fun e => ?_) (fun e => ?_) (fun e => ?_) (fun e => a10.resolve_left e) (fun x hx => ih3 x hx (a11 x hx)) (fun x hx => ih4 x hx (a12 x hx))
    · rw [if_pos e] at a3
      simpa using a3
    · rw [if_neg (by rw [e]; simp)] at a3
      exact a3
    · rw [if_pos e] at a4
      exact a4
    · rw [if_neg e] at a4
      simpa using a4
    · rw [if_pos e] at a8
      exact she_of h2 a8
    · rw [if_neg (by rw [e]; simp)] at a8
      exact blank_of a8
    · exact a9.resolve_left (by rw [e]; simp)
theorem shd_of {d : Dp} (h : d.size ≤ 9223372036854775807 ∧ d.init ≤ 9223372036854775807) : shD d = true → ShD d := by
  intro hs
  simp only [shD, Bool.and_eq_true, beq_iff_eq, decide_eq_true_eq, Bool.or_eq_true] at hs
  obtain ⟨a1, a2, a3, a4, a5, a6, a7, a8⟩ := hs
  refine ⟨⟨a1, a2⟩, a3, ⟨a4, h.1, fun e => a5.resolve_left e⟩, ⟨a7, h.2, fun e1 e2 => by omega⟩, fun e => ?_, fun e => ?_⟩
  · rw [if_pos e] at a6
    exact a6
  · rw [if_neg e] at a6
    simpa using a6
theorem shg_of {p : Gp} (hb : RgG p) (h : shG p = true) : ShG p := by
  simp only [shG, shT, shss_all, Bool.and_eq_true, List.all_eq_true, Bool.not_eq_true', List.isEmpty_eq_false_iff] at h
  obtain ⟨h1, h2, h3⟩ := h
  exact ⟨fun d hd => shd_of (hb.decls d hd) (h1 d hd), fun t ht => (h2 t ht).2.1, fun t ht => (h2 t ht).1, fun t ht s hs => shs_of (hb.thrs t ht s hs) ((h2 t ht).2.2 s hs), h3⟩
/-! bulk -/
theorem bulk_sl (z : Bool) (t : Nat) (rows : List (List V)) : (SL z t rows).bulk = bulkRows rows + 1 := by
  unfold SL
  split
  · rename_i h
    rw [h.2]
    simp [V.bulk, bulkRows]
  · simp [V.bulk]
theorem bulkx (x : Xp) : bulkRow x.row = 4 + x.nm.length + bulkRows (x.l.map Xp.row) := by
  rw [xrow_def]
  simp only [bulkRow, V.bulk, bulk_sl]
  omega
theorem bulks (s : Sp) : bulkRow s.row = 7 + s.nm.length + s.arg.length + bulkRows (s.idx.map Xp.row) + bulkRow s.ex.row + bulkRows (s.body.map Sp.row) + bulkRows (s.els.map Sp.row) := by
  rw [srow_def]
  simp only [bulkRow_append, bulkRow, V.bulk, bulk_sl]
  omega
theorem bulkd (d : Dp) : bulkRow d.row = 6 + d.nm.length + d.on.length := by
  simp only [Dp.row, bulkRow, V.bulk]
  omega
theorem bulkt (t : Tp) : bulkRow t.row = 4 + t.nm.length + bulkRows (t.locals.map fun s => [V.str s]) + bulkRows (t.body.map Sp.row) := by
  simp only [Tp.row, bulkRow, V.bulk, bulk_sl]
  omega
theorem bulkg (p : Gp) : bulkRow p.row = 2 + bulkRows (p.decls.map Dp.row) + bulkRows (p.thrs.map Tp.row) := by
  simp only [Gp.row, bulkRow, bulk_sl]
  omega
theorem bulk_mem {α : Type} {f : α → List V} : ∀ {l : List α} {x : α}, x ∈ l → bulkRow (f x) ≤ bulkRows (l.map f)
  | y :: l, x, h => by
    rw [List.map_cons, bulkRows]
    rcases List.mem_cons.1 h with rfl | h
    · omega
    · have := bulk_mem (f := f) h
      omega
theorem bulk_len {α : Type} {f : α → List V} (hf : ∀ x, 1 ≤ bulkRow (f x)) : ∀ l : List α, l.length ≤ bulkRows (l.map f)
  | [] => by simp
  | x :: l => by
    rw [List.map_cons, bulkRows, List.length_cons]
    have := bulk_len hf l
    have := hf x
    omega
/-- texts are not much longer than what they tell -/
theorem flat_bulk {α : Type} {f : α → List V} {g : α → List UInt8} {C : Nat} : ∀ {l : List α}, (∀ x ∈ l, (g x).length ≤ C * bulkRow (f x)) → ((l.map g).flatten).length ≤ C * bulkRows (l.map f)
  | [], _ => by simp
  | x :: l, h => by
    rw [List.map_cons, List.flatten_cons, List.length_append, List.map_cons, bulkRows, Nat.mul_add]
    have h1 := h x List.mem_cons_self
    have h2 := flat_bulk (l := l) fun y hy => h y (List.mem_cons_of_mem _ hy)
    omega
theorem txt_bulk {x : Xp} (h : ShE x) : x.txt.length ≤ 32 * bulkRow x.row := by
  induction h with
  | num h =>
    rw [xtxt_def, bulkx]
    have := itoa_le (by assumption : Int)
    rename_i n z t
    have := itoa_le n
    simp only [combE, if_pos]
    omega
  | name h =>
    rw [xtxt_def, bulkx]
    simp only [combE]
    simp
    omega
  | @idx nm z t a hn ha ih =>
    rw [xtxt_def, bulkx]
    have h1 := bulk_mem (f := Xp.row) (l := [a]) (x := a) (by simp)
    simp only [combE, List.map_cons, List.map_nil] at h1 ⊢
    simp only [Int.reduceEq, if_false, if_true, List.length_append, List.length_cons, List.length_nil]
    omega
  | @un op z t a ho ha ih =>
    rw [xtxt_def, bulkx]
    have h1 := bulk_mem (f := Xp.row) (l := [a]) (x := a) (by simp)
    have h2 := (put_len (a.op, a.txt) 6).2
    have h3 := (sgl_len (show 1 ≤ op ∧ op ≤ 18 by omega)).1
    simp only [combE, List.map_cons, List.map_nil] at h1 ⊢
    rw [if_neg (by omega), if_neg (by omega), if_neg (by omega), List.length_append]
    simp only at h2
    omega
  | @bin op z t a b ho ha hb iha ihb =>
    rw [xtxt_def, bulkx]
    have h2 := (put_len (a.op, a.txt) (leftE op)).2
    have h4 := (put_len (b.op, b.txt) (lvE op + 1)).2
    have h3 := (sgl_len (show 1 ≤ op ∧ op ≤ 18 by omega)).1
    simp only [combE, List.map_cons, List.map_nil, bulkRows]
    rw [if_neg (by omega), if_neg (by omega)]
    simp only [List.length_append, List.length_cons] at h2 h4 ⊢
    omega
theorem wordM_le (op : Int) : (wordE op).length ≤ 11 := by
  unfold wordE
  split <;> simp
theorem idx_bulk {l : List Xp} (h : ∀ x ∈ l, ShE x) : (idxE l).length ≤ 2 + 32 * bulkRows (l.map Xp.row) := by
  unfold idxE
  split
  · rename_i a r
    have h1 := txt_bulk (h a (by simp))
    have h2 := bulk_mem (f := Xp.row) (l := a :: r) (x := a) (by simp)
    simp only [List.length_cons, List.length_append, List.length_nil]
    omega
  · simp
theorem head_bulk {s : Sp} (h : ShS s) : (headE s).length ≤ 16 + s.nm.length + s.arg.length + 32 * bulkRows (s.idx.map Xp.row) + 32 * bulkRow s.ex.row := by
  obtain ⟨h1, h2, h3, h4, h5, h6, h7, h8, h9, h10, h11, h12, h13, h14⟩ := h
  have hw := wordM_le s.op
  have hi := idx_bulk h8
  unfold headE
  split
  · rename_i e
    have := txt_bulk (h9 (by rw [e]; rfl))
    simp only [List.length_cons, List.length_append]
    omega
  split
  · rename_i e
    have := txt_bulk (h9 (by rcases e with e | e <;> rw [e] <;> rfl))
    simp only [List.length_cons, List.length_append]
    omega
  split
  · omega
  split
  · rename_i e
    have := txt_bulk (h9 (by rw [e]; rfl))
    simp only [List.length_cons, List.length_append]
    omega
  split
  · simp only [List.length_cons, List.length_append]
    omega
  · simp only [List.length_cons, List.length_append]
    omega
theorem txts_bulk {C d : Nat} : ∀ {l : List Sp}, (∀ x ∈ l, (x.txt d).length ≤ C * bulkRow x.row) → (Sp.txts d l).length ≤ C * bulkRows (l.map Sp.row)
  | [], _ => by simp [Sp.txts]
  | x :: l, h => by
    rw [stxts_cons, List.length_append, List.map_cons, bulkRows, Nat.mul_add]
    have h1 := h x List.mem_cons_self
    have h2 := txts_bulk (l := l) fun y hy => h y (List.mem_cons_of_mem _ hy)
    omega
theorem stxt_bulk {K : Nat} {s : Sp} (h : ShS s) : ∀ d, d + bulkRow s.row ≤ K → (s.txt d).length ≤ (K + 32) * bulkRow s.row := by
  induction h with
  | @mk s h1 h2 h3 h4 h5 h6 h7 h8 h9 h10 h11 h12 h13 h14 ih1 ih2 =>
    intro d hd
    have hh := head_bulk (.mk h1 h2 h3 h4 h5 h6 h7 h8 h9 h10 h11 h12 h13 h14)
    have hb := bulks s
    have b1 : (Sp.txts (d + 1) s.body).length ≤ (K + 32) * bulkRows (s.body.map Sp.row) := txts_bulk fun x hx => ih1 x hx (d + 1) (by have := bulk_mem (f := Sp.row) hx; omega)
    have b2 : (Sp.txts (d + 1) s.els).length ≤ (K + 32) * bulkRows (s.els.map Sp.row) := txts_bulk fun x hx => ih2 x hx (d + 1) (by have := bulk_mem (f := Sp.row) hx; omega)
    have hi := ind_len d
    have e4 : 4 ≤ bulkRow s.ex.row := by rw [bulkx]; omega
    have hlen : (s.txt d).length ≤ 6 * d + 40 + (headE s).length + (Sp.txts (d + 1) s.body).length + (Sp.txts (d + 1) s.els).length := by
      rw [stxt_eq]
      cases bodyE s.op
      · simp only [Bool.false_eq_true, if_false, List.length_append, List.length_cons, List.length_nil]
        omega
      · simp only [if_true, List.length_append, List.length_cons, List.length_nil]
        split
        · simp only [List.length_nil]
          omega
        · simp only [List.length_append, List.length_cons]
          omega
    rw [hb]
    generalize bulkRows (s.body.map Sp.row) = B1 at *
    generalize bulkRows (s.els.map Sp.row) = B2 at *
    generalize bulkRows (s.idx.map Xp.row) = B3 at *
    generalize bulkRow s.ex.row = B4 at *
    have m1 : (K + 32) * (7 + s.nm.length + s.arg.length + B3 + B4 + B1 + B2) = (K + 32) * 7 + K * (s.nm.length + s.arg.length + B3) + 32 * (s.nm.length + s.arg.length + B3) + (K * B4 + 32 * B4) + (K + 32) * B1 + (K + 32) * B2 := by
      simp only [Nat.mul_add, Nat.add_mul]
      omega
    omega
theorem szs_bulk {s : Sp} (h : ShS s) : s.sz ≤ bulkRow s.row := by
  have hl : ∀ l : List Sp, (∀ x ∈ l, x.sz ≤ bulkRow x.row) → Sp.szs l ≤ bulkRows (l.map Sp.row) := fun l => by
    induction l with
    | nil => intro _; simp [Sp.szs]
    | cons x l ih =>
      intro h
      rw [Sp.szs, List.map_cons, bulkRows]
      have := h x (by simp)
      have := ih fun y hy => h y (List.mem_cons_of_mem _ hy)
      omega
  induction h with
  | @mk s h1 h2 h3 h4 h5 h6 h7 h8 h9 h10 h11 h12 h13 h14 ih1 ih2 =>
    rw [ssz_eq, bulks]
    have := hl _ ih1
    have := hl _ ih2
    omega
theorem szss_bulk : ∀ {l : List Sp}, (∀ x ∈ l, ShS x) → Sp.szs l ≤ bulkRows (l.map Sp.row)
  | [], _ => by simp [Sp.szs]
  | x :: l, h => by
    rw [Sp.szs, List.map_cons, bulkRows]
    have := szs_bulk (h x (by simp))
    have := szss_bulk (l := l) fun y hy => h y (List.mem_cons_of_mem _ hy)
    omega
theorem decl_bulk {d : Dp} : (declE d ++ [59, 10]).length ≤ 32 * bulkRow d.row := by
  have h1 := itoa_le d.size
  have h2 := itoa_le d.init
  have h3 : (initE d.init).length ≤ 24 := by
    unfold initE
    split
    · simp
    · simp only [List.length_cons]; omega
  have h4 : ((if d.size = 0 then [] else 91 :: (itoaE d.size ++ [93])) : List UInt8).length ≤ 23 := by
    split
    · simp
    · simp only [List.length_cons, List.length_append, List.length_nil]; omega
  rw [bulkd, List.length_append]
  unfold declE
  split
  · simp only [List.length_append, List.length_cons, List.length_nil] at h4 ⊢; omega
  split
  · simp only [List.length_append, List.length_cons, List.length_nil]; omega
  split
  · simp only [List.length_append, List.length_cons, List.length_nil]; omega
  split
  · simp only [List.length_append, List.length_cons, List.length_nil]; omega
  split
  · simp only [List.length_append, List.length_cons, List.length_nil]; omega
  · simp only [List.length_append, List.length_cons, List.length_nil]; omega
theorem join_bulk : ∀ l : List (List UInt8), (joinE l).length ≤ 2 * bulkRows (l.map fun s => [V.str s])
  | [] => by simp [joinE]
  | [a] => by simp only [joinE, List.map_cons, List.map_nil, bulkRows, bulkRow, V.bulk]; omega
  | a :: b :: l => by
    have := join_bulk (b :: l)
    rw [List.map_cons, bulkRows]
    simp only [joinE, List.length_append, List.length_cons, bulkRow, V.bulk] at this ⊢
    omega
theorem thr_bulk {K : Nat} {t : Tp} (h : ∀ s ∈ t.body, ShS s) (hK : 1 + bulkRow t.row ≤ K) : (thrE t).length ≤ (K + 32) * bulkRow t.row := by
  have hb := bulkt t
  have hj := join_bulk t.locals
  have h1 : (Sp.txts 1 t.body).length ≤ (K + 32) * bulkRows (t.body.map Sp.row) := txts_bulk fun x hx => stxt_bulk (h x hx) 1 (by have := bulk_mem (f := Sp.row) hx; omega)
  unfold thrE
  simp only [List.length_append, List.length_cons, List.length_nil]
  rw [hb]
  generalize bulkRows (t.body.map Sp.row) = B1 at *
  generalize bulkRows (t.locals.map fun s => [V.str s]) = B2 at *
  have m1 : (K + 32) * (4 + t.nm.length + B2 + B1) = (K + 32) * 4 + K * (t.nm.length + B2) + 32 * (t.nm.length + B2) + (K + 32) * B1 := by
    simp only [Nat.mul_add, Nat.add_mul]
    omega
  omega
theorem prog_bulk {K : Nat} {p : Gp} (h : ShG p) (hK : 1 + bulkRow p.row ≤ K) : (progE p).length ≤ (K + 32) * bulkRow p.row ∧ ∀ t ∈ p.thrs, Sp.szs t.body ≤ bulkRow p.row := by
  have hb := bulkg p
  refine ⟨?_, fun t ht => ?_⟩
  · have h1 : ((p.decls.map fun d => declE d ++ [59, 10]).flatten).length ≤ (K + 32) * bulkRows (p.decls.map Dp.row) := flat_bulk fun d _ => by
      have := decl_bulk (d := d)
      rw [Nat.add_mul]
      omega
    have h2 : ((p.thrs.map thrE).flatten).length ≤ (K + 32) * bulkRows (p.thrs.map Tp.row) := flat_bulk fun t ht => thr_bulk (fun s hs => h.thrs t ht s hs) (by have := bulk_mem (f := Tp.row) ht; omega)
    unfold progE
    rw [List.length_append, hb, Nat.mul_add, Nat.mul_add]
    omega
  · have h1 := szss_bulk fun s hs => h.thrs t ht s hs
    have h2 := bulk_mem (f := Tp.row) ht
    have h3 := bulkt t
    omega
end Go.Proofs.YtlehfgdhebapeaaDoor.KM
