/- Plain: what a shaped program is, as a value; sizes. -/
import Derived.Test.YtlehfgdhebapeaaDoorLc
import Derived.Test.YtlehfgdhebapeaaDoorKy
import Derived.Test.YtlehfgdhebapeaaDoorGg
import Derived.Test.YtlehfgdhebapeaaDoorGd
set_option linter.all false
namespace Go.Proofs.YtlehfgdhebapeaaDoor.KM
open Go
/-! shapes -/
def shH (op n : Int) (nm : List UInt8) (k : Nat) : Bool :=
  arE op == (k : Int) && ((op == 2 || op == 3) == !(nm == []) && ((!(op == 2 || op == 3) || isNameE nm) && (decide (0 ≤ n) && (op == 1 || n == 0))))
mutual
def shX : Xp → Bool
  | ⟨op, n, nm, _, _, l⟩ => shH op n nm l.length && shXs l
def shXs : List Xp → Bool
  | [] => true
  | x :: l => shX x && shXs l
end
theorem shxs_all : ∀ l : List Xp, shXs l = l.all shX
  | [] => rfl
  | x :: l => by rw [shXs, shxs_all l]; rfl
theorem shx_def (x : Xp) : shX x = (shH x.op x.n x.nm x.l.length && x.l.all shX) := by
  rw [← shxs_all]
  cases x
  rfl
def blankB (x : Xp) : Bool := x.op == 0 && (x.n == 0 && (x.nm == [] && x.l.isEmpty))
def shSH (s : Sp) : Bool :=
  decide (1 ≤ s.op) && (decide (s.op ≤ 15) && ((if namelessE s.op then s.nm == [] else isNameE s.nm) && ((if s.op = 15 then isNameE s.arg else s.arg == []) &&
    (decide (s.idx.length ≤ 1) && ((s.op == 1 || s.idx.isEmpty) && (s.idx.all shX && ((if valuedE s.op then shX s.ex else blankB s.ex) &&
      ((bodyE s.op || s.body.isEmpty) && (s.op == 2 || s.els.isEmpty)))))))))
mutual
def shS : Sp → Bool
  | ⟨op, line, nm, arg, iz, it, idx, ex, bz, bt, body, ez, et, els⟩ => shSH ⟨op, line, nm, arg, iz, it, idx, ex, bz, bt, body, ez, et, els⟩ && (shSs body && shSs els)
def shSs : List Sp → Bool
  | [] => true
  | x :: l => shS x && shSs l
end
theorem shss_all : ∀ l : List Sp, shSs l = l.all shS
  | [] => rfl
  | x :: l => by rw [shSs, shss_all l]; rfl
theorem shs_def (s : Sp) : shS s = (shSH s && (shSs s.body && shSs s.els)) := by
  cases s
  rfl
def shD (d : Dp) : Bool :=
  decide (1 ≤ d.kind) && (decide (d.kind ≤ 6) && (isNameE d.nm && (decide (0 ≤ d.size) && ((d.kind == 1 || d.size == 0) && ((if d.kind = 5 then isNameE d.on else d.on == []) &&
    (decide (-9223372036854775808 < d.init) && (d.init == 0 || (d.kind == 1 || d.kind == 2))))))))
def shT (t : Tp) : Bool := t.locals.all isNameE && (isNameE t.nm && shSs t.body)
def shG (p : Gp) : Bool := p.decls.all shD && (p.thrs.all shT && !p.thrs.isEmpty)
/-! what is in range -/
/-! bulk -/
theorem bulk_sl (z : Bool) (t : Nat) (rows : List (List V)) : (SL z t rows).bulk = bulkRows rows + 1 := by
  unfold SL
  split
  · rename_i h
    rw [h.2]
    simp [V.bulk, bulkRows]
  · simp [V.bulk]
theorem bulkx (x : Xp) : bulkRow x.row = 4 + x.nm.length + bulkRows (x.l.map Xp.row) := by
  rw [xrow_def]
  simp only [bulkRow, V.bulk, bulk_sl]
  omega
theorem bulks (s : Sp) : bulkRow s.row = 7 + s.nm.length + s.arg.length + bulkRows (s.idx.map Xp.row) + bulkRow s.ex.row + bulkRows (s.body.map Sp.row) + bulkRows (s.els.map Sp.row) := by
  rw [srow_def]
  simp only [bulkRow_append, bulkRow, V.bulk, bulk_sl]
  omega
theorem bulkd (d : Dp) : bulkRow d.row = 6 + d.nm.length + d.on.length := by
  simp only [Dp.row, bulkRow, V.bulk]
  omega
theorem bulkt (t : Tp) : bulkRow t.row = 4 + t.nm.length + bulkRows (t.locals.map fun s => [V.str s]) + bulkRows (t.body.map Sp.row) := by
  simp only [Tp.row, bulkRow, V.bulk, bulk_sl]
  omega
theorem bulkg (p : Gp) : bulkRow p.row = 2 + bulkRows (p.decls.map Dp.row) + bulkRows (p.thrs.map Tp.row) := by
  simp only [Gp.row, bulkRow, bulk_sl]
  omega
theorem bulk_mem {α : Type} {f : α → List V} : ∀ {l : List α} {x : α}, x ∈ l → bulkRow (f x) ≤ bulkRows (l.map f)
  | y :: l, x, h => by
    rw [List.map_cons, bulkRows]
    rcases List.mem_cons.1 h with rfl | h
    · omega
    · have := bulk_mem (f := f) h
      omega
theorem bulk_len {α : Type} {f : α → List V} (hf : ∀ x, 1 ≤ bulkRow (f x)) : ∀ l : List α, l.length ≤ bulkRows (l.map f)
  | [] => by simp
  | x :: l => by
    rw [List.map_cons, bulkRows, List.length_cons]
    have := bulk_len hf l
    have := hf x
    omega
theorem txt_bulk {x : Xp} (h : ShE x) : x.txt.length ≤ 32 * bulkRow x.row := by
  induction h with
  | num h =>
    rw [xtxt_def, bulkx]
    have := itoa_le (by assumption : Int)
    rename_i n z t
    have := itoa_le n
    simp only [combE, if_pos]
    omega
  | name h =>
    rw [xtxt_def, bulkx]
    simp only [combE]
    simp
    omega
  | @idx nm z t a hn ha ih =>
    rw [xtxt_def, bulkx]
    have h1 := bulk_mem (f := Xp.row) (l := [a]) (x := a) (by simp)
    simp only [combE, List.map_cons, List.map_nil] at h1 ⊢
    simp only [Int.reduceEq, if_false, if_true, List.length_append, List.length_cons, List.length_nil]
    omega
  | @un op z t a ho ha ih =>
    rw [xtxt_def, bulkx]
    have h1 := bulk_mem (f := Xp.row) (l := [a]) (x := a) (by simp)
    have h2 := (put_len (a.op, a.txt) 6).2
    have h3 := (sgl_len (show 1 ≤ op ∧ op ≤ 18 by omega)).1
    simp only [combE, List.map_cons, List.map_nil] at h1 ⊢
    rw [if_neg (by omega), if_neg (by omega), if_neg (by omega), List.length_append]
    simp only at h2
    omega
  | @bin op z t a b ho ha hb iha ihb =>
    rw [xtxt_def, bulkx]
    have h2 := (put_len (a.op, a.txt) (leftE op)).2
    have h4 := (put_len (b.op, b.txt) (lvE op + 1)).2
    have h3 := (sgl_len (show 1 ≤ op ∧ op ≤ 18 by omega)).1
    simp only [combE, List.map_cons, List.map_nil, bulkRows]
    rw [if_neg (by omega), if_neg (by omega)]
    simp only [List.length_append, List.length_cons] at h2 h4 ⊢
    omega
theorem wordM_le (op : Int) : (wordE op).length ≤ 11 := by
  unfold wordE
  split <;> simp
theorem idx_bulk {l : List Xp} (h : ∀ x ∈ l, ShE x) : (idxE l).length ≤ 2 + 32 * bulkRows (l.map Xp.row) := by
  unfold idxE
  split
  · rename_i a r
    have h1 := txt_bulk (h a (by simp))
    have h2 := bulk_mem (f := Xp.row) (l := a :: r) (x := a) (by simp)
    simp only [List.length_cons, List.length_append, List.length_nil]
    omega
  · simp
theorem head_bulk {s : Sp} (h : ShS s) : (headE s).length ≤ 16 + s.nm.length + s.arg.length + 32 * bulkRows (s.idx.map Xp.row) + 32 * bulkRow s.ex.row := by
  obtain ⟨h1, h2, h3, h4, h5, h6, h7, h8, h9, h10, h11, h12, h13, h14⟩ := h
  have hw := wordM_le s.op
  have hi := idx_bulk h8
  unfold headE
  split
  · rename_i e
    have := txt_bulk (h9 (by rw [e]; rfl))
    simp only [List.length_cons, List.length_append]
    omega
  split
  · rename_i e
    have := txt_bulk (h9 (by rcases e with e | e <;> rw [e] <;> rfl))
    simp only [List.length_cons, List.length_append]
    omega
  split
  · omega
  split
  · rename_i e
    have := txt_bulk (h9 (by rw [e]; rfl))
    simp only [List.length_cons, List.length_append]
    omega
  split
  · simp only [List.length_cons, List.length_append]
    omega
  · simp only [List.length_cons, List.length_append]
    omega
theorem txts_bulk {C d : Nat} : ∀ {l : List Sp}, (∀ x ∈ l, (x.txt d).length ≤ C * bulkRow x.row) → (Sp.txts d l).length ≤ C * bulkRows (l.map Sp.row)
  | [], _ => by simp [Sp.txts]
  | x :: l, h => by
    rw [stxts_cons, List.length_append, List.map_cons, bulkRows, Nat.mul_add]
    have h1 := h x List.mem_cons_self
    have h2 := txts_bulk (l := l) fun y hy => h y (List.mem_cons_of_mem _ hy)
    omega
theorem stxt_bulk {K : Nat} {s : Sp} (h : ShS s) : ∀ d, d + bulkRow s.row ≤ K → (s.txt d).length ≤ (K + 32) * bulkRow s.row := by
  induction h with
  | @mk s h1 h2 h3 h4 h5 h6 h7 h8 h9 h10 h11 h12 h13 h14 ih1 ih2 =>
    intro d hd
    have hh := head_bulk (.mk h1 h2 h3 h4 h5 h6 h7 h8 h9 h10 h11 h12 h13 h14)
    have hb := bulks s
    have b1 : (Sp.txts (d + 1) s.body).length ≤ (K + 32) * bulkRows (s.body.map Sp.row) := txts_bulk fun x hx => ih1 x hx (d + 1) (by have := bulk_mem (f := Sp.row) hx; omega)
    have b2 : (Sp.txts (d + 1) s.els).length ≤ (K + 32) * bulkRows (s.els.map Sp.row) := txts_bulk fun x hx => ih2 x hx (d + 1) (by have := bulk_mem (f := Sp.row) hx; omega)
    have hi := ind_len d
    have e4 : 4 ≤ bulkRow s.ex.row := by rw [bulkx]; omega
    have hlen : (s.txt d).length ≤ 6 * d + 40 + (headE s).length + (Sp.txts (d + 1) s.body).length + (Sp.txts (d + 1) s.els).length := by
      rw [stxt_eq]
      cases bodyE s.op
      · simp only [Bool.false_eq_true, if_false, List.length_append, List.length_cons, List.length_nil]
        omega
      · simp only [if_true, List.length_append, List.length_cons, List.length_nil]
        split
        · simp only [List.length_nil]
          omega
        · simp only [List.length_append, List.length_cons]
          omega
    rw [hb]
    generalize bulkRows (s.body.map Sp.row) = B1 at *
    generalize bulkRows (s.els.map Sp.row) = B2 at *
    generalize bulkRows (s.idx.map Xp.row) = B3 at *
    generalize bulkRow s.ex.row = B4 at *
    have m1 : (K + 32) * (7 + s.nm.length + s.arg.length + B3 + B4 + B1 + B2) = (K + 32) * 7 + K * (s.nm.length + s.arg.length + B3) + 32 * (s.nm.length + s.arg.length + B3) + (K * B4 + 32 * B4) + (K + 32) * B1 + (K + 32) * B2 := by
      simp only [Nat.mul_add, Nat.add_mul]
      omega
    omega
theorem szs_bulk {s : Sp} (h : ShS s) : s.sz ≤ bulkRow s.row := by
  have hl : ∀ l : List Sp, (∀ x ∈ l, x.sz ≤ bulkRow x.row) → Sp.szs l ≤ bulkRows (l.map Sp.row) := fun l => by
    induction l with
    | nil => intro _; simp [Sp.szs]
    | cons x l ih =>
      intro h
      rw [Sp.szs, List.map_cons, bulkRows]
      have := h x (by simp)
      have := ih fun y hy => h y (List.mem_cons_of_mem _ hy)
      omega
  induction h with
  | @mk s h1 h2 h3 h4 h5 h6 h7 h8 h9 h10 h11 h12 h13 h14 ih1 ih2 =>
    rw [ssz_eq, bulks]
    have := hl _ ih1
    have := hl _ ih2
    omega
end Go.Proofs.YtlehfgdhebapeaaDoor.KM
