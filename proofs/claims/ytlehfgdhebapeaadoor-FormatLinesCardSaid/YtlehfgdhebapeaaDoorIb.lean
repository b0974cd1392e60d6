/- Walks: names and expressions as the static rules see them. -/
import Derived.Test.YtlehfgdhebapeaaDoorMi
set_option linter.all false
namespace Go.Proofs.YtlehfgdhebapeaaDoor.KM
open Go
/-- the first place in a list, or -1 -/
def fIx {α : Type} (p : α → Bool) : List α → Int
  | [] => -1
  | a :: l => if p a then 0 else if fIx p l < 0 then -1 else fIx p l + 1
theorem fix_rng {α : Type} (p : α → Bool) : ∀ l : List α, -1 ≤ fIx p l ∧ fIx p l < l.length
  | [] => by simp [fIx]
  | a :: l => by
    have := fix_rng p l
    simp only [fIx, List.length_cons]
    split
    · omega
    · split <;> omega
theorem fix_hit {α : Type} {p : α → Bool} : ∀ {l : List α} {i : Nat} {a : α}, (∀ b ∈ l.take i, p b = false) → l[i]? = some a → p a = true → fIx p l = i
  | [], i, a, _, h, _ => by simp at h
  | b :: l, 0, a, _, h, hp => by
    simp at h
    subst h
    simp [fIx, hp]
  | b :: l, i + 1, a, hn, h, hp => by
    have h1 := fix_hit (l := l) (i := i) (a := a) (fun c hc => hn c (by simp [hc])) (by simpa using h) hp
    have h2 := hn b (by simp)
    simp only [fIx, h2, h1]
    simp
    omega
theorem fix_none {α : Type} {p : α → Bool} : ∀ {l : List α}, (∀ b ∈ l, p b = false) → fIx p l = -1
  | [], _ => rfl
  | b :: l, h => by
    simp only [fIx, h b (by simp), fix_none (l := l) fun c hc => h c (by simp [hc])]
    simp
/-- the place is there -/
theorem fix_get {α : Type} {p : α → Bool} {l : List α} (h : 0 ≤ fIx p l) : ∃ (i : Nat) (a : α), fIx p l = i ∧ l[i]? = some a ∧ i < l.length := by
  have h2 := (fix_rng p l).2
  obtain ⟨i, hi⟩ : ∃ i : Nat, fIx p l = i := ⟨(fIx p l).toNat, by omega⟩
  exact ⟨i, l[i]'(by omega), hi, List.getElem?_eq_getElem (by omega), by omega⟩
theorem take_step {α : Type} {p : α → Bool} {l : List α} {i : Nat} {a : α} (h : ∀ b ∈ l.take i, p b = false) (ha : l[i]? = some a) (hp : p a = false) : ∀ b ∈ l.take (i + 1), p b = false := by
  intro b hb
  rw [List.take_succ, ha] at hb
  rcases List.mem_append.1 hb with hb | hb
  · exact h b hb
  · simp at hb
    rw [hb]
    exact hp
theorem at4_fn (z : Bool) (t : Nat) (l : List (List UInt8)) (s : List UInt8) (hl : l.length ≤ 9223372036854775806) : Fn TT PT 87 [SL z t (l.map fun x => [V.str x]), .str s] (.int .i64 (fIx (· == s) l)) := by
  have n1 : (l.map fun x => [V.str x]).length = l.length := List.length_map ..
  refine Fn_go T87 rfl ?_
  simp only [go_sem]
  refine loop_w (α := Nat) (fun i => l.length - i) (fun i => [(0, SL z t (l.map fun x => [V.str x])), (1, .str s), (5, .int .i64 (i : Int))]) (fun _ => []) (fun i => i ≤ l.length ∧ ∀ b ∈ l.take i, (b == s) = false) ?_ 0 ⟨Nat.zero_le _, by simp⟩
  rintro i ⟨hi, hc⟩ ih
  refine w_rep (by delta lp87_0; exact rfl) ?_
  rcases Nat.lt_or_ge i l.length with h' | h'
  · obtain ⟨x, hx, -, -⟩ := at_some h'
    cases hp : (x == s)
    · simp only [go_sem, n1, lt_t h', List.getElem?_map, hx, hp, inc64 (show i < 9223372036854775807 by omega)]
      exact W_keep (ih (i + 1) (by omega) ⟨h', take_step hc hx hp⟩) rfl
    · rw [fix_hit hc hx hp]
      simp only [go_sem, n1, lt_t h', List.getElem?_map, hx, hp]
      exact fr_eq rfl rfl
  · rw [List.take_of_length_le h'] at hc
    rw [fix_none hc]
    simp only [go_sem, n1, lt_f h']
    exact fr_eq rfl rfl
theorem dat_fn (z : Bool) (t : Nat) (l : List Dp) (s : List UInt8) (hl : l.length ≤ 9223372036854775806) : Fn TT PT 85 [SL z t (l.map Dp.row), .str s] (.int .i64 (fIx (fun d : Dp => d.nm == s) l)) := by
  have n1 : (l.map Dp.row).length = l.length := List.length_map ..
  refine Fn_go T85 rfl ?_
  simp only [go_sem]
  refine loop_w (α := Nat) (fun i => l.length - i) (fun i => [(0, SL z t (l.map Dp.row)), (1, .str s), (5, .int .i64 (i : Int))]) (fun _ => []) (fun i => i ≤ l.length ∧ ∀ b ∈ l.take i, (b.nm == s) = false) ?_ 0 ⟨Nat.zero_le _, by simp⟩
  rintro i ⟨hi, hc⟩ ih
  refine w_rep (by delta lp85_0; exact rfl) ?_
  rcases Nat.lt_or_ge i l.length with h' | h'
  · obtain ⟨x, hx, -, -⟩ := at_some h'
    have hrow : x.row = [.int .i64 x.kind, .int .i64 x.line, .str x.nm, .int .i64 x.size, .int .i64 x.init, .str x.on] := rfl
    cases hp : (x.nm == s)
    · simp only [go_sem, n1, lt_t h', List.getElem?_map, hx, hrow, hp, inc64 (show i < 9223372036854775807 by omega)]
      exact W_keep (ih (i + 1) (by omega) ⟨h', take_step (p := fun d : Dp => d.nm == s) hc hx hp⟩) rfl
    · rw [fix_hit (p := fun d : Dp => d.nm == s) hc hx hp]
      simp only [go_sem, n1, lt_t h', List.getElem?_map, hx, hrow, hp]
      exact fr_eq rfl rfl
  · rw [List.take_of_length_le h'] at hc
    rw [fix_none hc]
    simp only [go_sem, n1, lt_f h']
    exact fr_eq rfl rfl
theorem tat_fn (z : Bool) (t : Nat) (l : List Tp) (s : List UInt8) (hl : l.length ≤ 9223372036854775806) : Fn TT PT 86 [SL z t (l.map Tp.row), .str s] (.int .i64 (fIx (fun d : Tp => d.nm == s) l)) := by
  have n1 : (l.map Tp.row).length = l.length := List.length_map ..
  refine Fn_go T86 rfl ?_
  simp only [go_sem]
  refine loop_w (α := Nat) (fun i => l.length - i) (fun i => [(0, SL z t (l.map Tp.row)), (1, .str s), (5, .int .i64 (i : Int))]) (fun _ => []) (fun i => i ≤ l.length ∧ ∀ b ∈ l.take i, (b.nm == s) = false) ?_ 0 ⟨Nat.zero_le _, by simp⟩
  rintro i ⟨hi, hc⟩ ih
  refine w_rep (by delta lp86_0; exact rfl) ?_
  rcases Nat.lt_or_ge i l.length with h' | h'
  · obtain ⟨x, hx, -, -⟩ := at_some h'
    have hrow : x.row = [.str x.nm, .int .i64 x.line, SL x.lz x.lt (x.locals.map fun s => [V.str s]), SL x.bz x.bt (x.body.map Sp.row)] := rfl
    cases hp : (x.nm == s)
    · simp only [go_sem, n1, lt_t h', List.getElem?_map, hx, hrow, hp, inc64 (show i < 9223372036854775807 by omega)]
      exact W_keep (ih (i + 1) (by omega) ⟨h', take_step (p := fun d : Tp => d.nm == s) hc hx hp⟩) rfl
    · rw [fix_hit (p := fun d : Tp => d.nm == s) hc hx hp]
      simp only [go_sem, n1, lt_t h', List.getElem?_map, hx, hrow, hp]
      exact fr_eq rfl rfl
  · rw [List.take_of_length_le h'] at hc
    rw [fix_none hc]
    simp only [go_sem, n1, lt_f h']
    exact fr_eq rfl rfl
/-- lists that Go could hold -/
structure LnG (p : Gp) : Prop where
  d : p.decls.length ≤ 1000000000
  t : p.thrs.length ≤ 1000000000
  l : ∀ t ∈ p.thrs, t.locals.length ≤ 1000000000
theorem neg_ix {α : Type} {p : α → Bool} {l : List α} (h : ¬ 0 ≤ fIx p l) : fIx p l = -1 := by
  have := fix_rng p l
  omega
theorem gset4 (x : Gp) : x.row.all V.rowB = true := by
  unfold Gp.row
  simp only [List.all_cons, List.all_nil, sl_row]
  rfl
theorem cells2b {a b : V} (h : [a, b].all V.rowB = true) : a.cellB = true ∧ b.cellB = true := by
  have h := cb_row h
  simp only [List.all_cons, List.all_nil, Bool.and_true, Bool.and_eq_true] at h
  exact h
theorem grow4 (x : Gp) : x.row = [SL x.dz x.dt (x.decls.map Dp.row), SL x.tz x.tt (x.thrs.map Tp.row)] := rfl
/-- a pure function whose result is known only in part -/
theorem fn_rel {R : V → Prop} {f p : Nat} {res : List AR} {body : AC} {vs : List V} (hT : TT f = some ⟨p, res, false, body, none⟩) (hl : vs.length = p) (h : W TT PT [.c body] (parEnv 0 vs) [] (Hd fun e' σ1 => ∃ v, resV e' σ1 res = some v ∧ (okRes v = true ∧ v.refs = [] ∧ back [] v = some v) ∧ R v)) : ∃ v, Fn TT PT f vs v ∧ R v := by
  obtain ⟨e', σ', hE, v, hr, h1, h2⟩ := h
  exact ⟨v, Fn_intro hT rfl rfl hl ⟨e', σ', hE, v, hr, h1⟩, h2⟩
set_option maxHeartbeats 1000000 in
theorem kind_fn {p : Gp} (hp : LnG p) (th : Int) (s : List UInt8) : ∃ v, Fn TT PT 125 [.agg p.row, .int .i64 th, .str s] v ∧ ∃ k : Int, v = .int .i64 k ∧ (k = 5 → 0 ≤ fIx (fun d : Dp => d.nm == s) p.decls) := by
  obtain ⟨dz, dt, decls, tz, tt, thrs⟩ := p
  obtain ⟨h1, h2, h3⟩ := hp
  simp only at h1 h2 h3 ⊢
  unfold Gp.row
  simp only
  have n1 : (decls.map Dp.row).length = decls.length := List.length_map ..
  have n2 : (thrs.map Tp.row).length = thrs.length := List.length_map ..
  have hd := dat_fn dz dt decls s (by omega)
  have ht := tat_fn tz tt thrs s (by omega)
  refine fn_rel T125 rfl ?_
  refine w_seg (fun e σ => e = [(1, .int .i64 th), (2, .str s), (3, .ptr 0 0 0)] ∧ σ = [.row [SL dz dt (decls.map Dp.row), SL tz tt (thrs.map Tp.row)] 26 0 0]) (fun k' hk => ?_) ?_
  · simp only [go_sem]
    exact hk _ _ ⟨rfl, rfl⟩
  rintro e σ ⟨rfl, rfl⟩
  refine w_seg (fun e σ => e = [(2, .str s), (3, .ptr 0 0 0)] ∧ σ = [.row [SL dz dt (decls.map Dp.row), SL tz tt (thrs.map Tp.row)] 26 0 0]) (fun k' hk => ?_) ?_
  · by_cases c1 : 0 ≤ th
    · have f1 : ((0 : Int) ≤ th) = True := eq_true c1
      by_cases c2 : th < thrs.length
      · obtain ⟨i, rfl⟩ : ∃ i : Nat, th = i := ⟨th.toNat, by omega⟩
        have f2 : ((i : Int) < (thrs.length : Int)) = True := eq_true c2
        obtain ⟨x, hx, -, hm⟩ := at_some (l := thrs) (i := i) (by omega)
        have hrow : x.row = [.str x.nm, .int .i64 x.line, SL x.lz x.lt (x.locals.map fun s => [V.str s]), SL x.bz x.bt (x.body.map Sp.row)] := rfl
        have ha := at4_fn x.lz x.lt x.locals s (by have := h3 x hm; omega)
        simp only [go_sem, f1, f2, n2, List.getElem?_map, hx, hrow, ge_iff_le]
        refine wx_fn ha (by simp only [go_sem]) ?_
        by_cases c3 : 0 ≤ fIx (· == s) x.locals
        · have f3 : (0 ≤ fIx (· == s) x.locals) = True := eq_true c3
          simp only [go_sem, f3, ge_iff_le]
          exact ⟨_, rfl, ⟨rfl, rfl, rfl⟩, 8, rfl, by omega⟩
        · have f3 : (0 ≤ fIx (· == s) x.locals) = False := eq_false c3
          simp only [go_sem, f3, ge_iff_le]
          exact hk _ _ ⟨rfl, rfl⟩
      · have f2 : (th < (thrs.length : Int)) = False := eq_false c2
        simp only [go_sem, f1, f2, n2, ge_iff_le]
        exact hk _ _ ⟨rfl, rfl⟩
    · have f1 : ((0 : Int) ≤ th) = False := eq_false c1
      simp only [go_sem, f1, ge_iff_le]
      exact hk _ _ ⟨rfl, rfl⟩
  rintro e σ ⟨rfl, rfl⟩
  by_cases c : 0 ≤ fIx (fun d : Dp => d.nm == s) decls
  · obtain ⟨i, x, e, hx, hi⟩ := fix_get c
    rw [e] at hd
    have f1 : ((i : Int) < 0) = False := eq_false (by omega)
    have hrow : x.row = [.int .i64 x.kind, .int .i64 x.line, .str x.nm, .int .i64 x.size, .int .i64 x.init, .str x.on] := rfl
    simp only [go_sem]
    refine wx_fn hd (by simp only [go_sem]) ?_
    by_cases k1 : x.kind = 1
    · have q1 : (x.kind == 1) = true := by simp [k1]
      cases q5 : (x.size == 0)
      · simp only [go_sem, f1, List.getElem?_map, hx, hrow, q1, q5, bne, Bool.not_false]
        exact ⟨_, rfl, ⟨rfl, rfl, rfl⟩, 2, rfl, by omega⟩
      · simp only [go_sem, f1, List.getElem?_map, hx, hrow, q1, q5, bne, Bool.not_true]
        exact ⟨_, rfl, ⟨rfl, rfl, rfl⟩, 1, rfl, by omega⟩
    have q1 : (x.kind == 1) = false := by simp [k1]
    cases q2 : (x.kind == 2)
    rotate_left
    · simp only [go_sem, f1, List.getElem?_map, hx, hrow, q1, q2]
      exact ⟨_, rfl, ⟨rfl, rfl, rfl⟩, 1, rfl, by omega⟩
    cases q3 : (x.kind == 3)
    rotate_left
    · simp only [go_sem, f1, List.getElem?_map, hx, hrow, q1, q2, q3]
      exact ⟨_, rfl, ⟨rfl, rfl, rfl⟩, _, rfl, fun _ => c⟩
    cases q4 : (x.kind == 4)
    rotate_left
    · simp only [go_sem, f1, List.getElem?_map, hx, hrow, q1, q2, q3, q4]
      exact ⟨_, rfl, ⟨rfl, rfl, rfl⟩, _, rfl, fun _ => c⟩
    cases q5 : (x.kind == 5)
    rotate_left
    · simp only [go_sem, f1, List.getElem?_map, hx, hrow, q1, q2, q3, q4, q5]
      exact ⟨_, rfl, ⟨rfl, rfl, rfl⟩, _, rfl, fun _ => c⟩
    cases q6 : (x.kind == 6)
    · simp only [go_sem, f1, List.getElem?_map, hx, hrow, q1, q2, q3, q4, q5, q6]
      exact ⟨_, rfl, ⟨rfl, rfl, rfl⟩, _, rfl, fun _ => c⟩
    · simp only [go_sem, f1, List.getElem?_map, hx, hrow, q1, q2, q3, q4, q5, q6]
      exact ⟨_, rfl, ⟨rfl, rfl, rfl⟩, _, rfl, fun _ => c⟩
  · rw [neg_ix c] at hd
    simp only [go_sem]
    refine wx_fn hd (by simp only [go_sem]) ?_
    simp only [go_sem, Int.reduceLT, Int.reduceNeg]
    refine wx_fn ht (by simp only [go_sem]) ?_
    by_cases c3 : 0 ≤ fIx (fun d : Tp => d.nm == s) thrs
    · have f3 : (0 ≤ fIx (fun d : Tp => d.nm == s) thrs) = True := eq_true c3
      simp only [go_sem, f3, ge_iff_le]
      exact ⟨_, rfl, ⟨rfl, rfl, rfl⟩, 7, rfl, by omega⟩
    · have f3 : (0 ≤ fIx (fun d : Tp => d.nm == s) thrs) = False := eq_false c3
      simp only [go_sem, f3, ge_iff_le]
      exact ⟨_, rfl, ⟨rfl, rfl, rfl⟩, 0, rfl, by omega⟩
theorem want_fn {p : Gp} (hp : LnG p) (th : Int) (s : List UInt8) (a b : Int) : ∃ v, Fn TT PT 110 [.agg p.row, .int .i64 th, .str s, .int .i64 a, .int .i64 b] v ∧ ∃ e : Int, v = .int .i64 e ∧ (a = 5 → b = 5 → e = 0 → 0 ≤ fIx (fun d : Dp => d.nm == s) p.decls) := by
  obtain ⟨_, hk, k, rfl, h5⟩ := kind_fn hp th s
  rw [grow4] at hk ⊢
  refine fn_rel T110 rfl ?_
  simp only [go_sem]
  refine wx_fn hk (by simp only [go_sem]) ?_
  by_cases k0 : k = 0
  · have q0 : (k == 0) = true := by simp [k0]
    simp only [go_sem, q0]
    exact ⟨_, rfl, ⟨rfl, rfl, rfl⟩, 5, rfl, by omega⟩
  have q0 : (k == 0) = false := by simp [k0]
  by_cases ka : k = a
  · have qa : (k == a) = true := by simp [ka]
    simp only [go_sem, q0, qa, bne, Bool.not_true]
    exact ⟨_, rfl, ⟨rfl, rfl, rfl⟩, 0, rfl, fun e _ _ => h5 (by omega)⟩
  have qa : (k == a) = false := by simp [ka]
  by_cases kb : k = b
  · have qb : (k == b) = true := by simp [kb]
    simp only [go_sem, q0, qa, qb, bne, Bool.not_true, Bool.not_false]
    exact ⟨_, rfl, ⟨rfl, rfl, rfl⟩, 0, rfl, fun _ e _ => h5 (by omega)⟩
  have qb : (k == b) = false := by simp [kb]
  simp only [go_sem, q0, qa, qb, bne, Bool.not_true, Bool.not_false]
  exact ⟨_, rfl, ⟨rfl, rfl, rfl⟩, 6, rfl, by omega⟩
theorem nodes_fn : ∀ (N : Nat) (x : Xp), bulkRow x.row ≤ N → N ≤ 1000000000 → ∃ v, Fn TT PT 126 [.agg x.row] v ∧ ∃ n d : Int, v = .tup [.int .i64 n, .int .i64 d]
  | 0, x, h, _ => by rw [bulkx] at h; omega
  | N + 1, x, h, hN => by
    have h1 := bulkx x
    have h2 := bulk_len (f := Xp.row) (fun x => by rw [bulkx]; omega) x.l
    have hlen : (x.l.map Xp.row).length = x.l.length := List.length_map ..
    have hx := xset x
    rw [xrow_def] at hx ⊢
    refine fn_rel T126 rfl ?_
    simp only [go_sem]
    refine loop_w (α := Nat × Int × Int) (fun a => x.l.length - a.1) (fun a => [(1, .ptr 0 0 0), (4, .int .i64 a.2.1), (5, .int .i64 a.2.2), (6, .int .i64 (a.1 : Int))]) (fun _ => [.row [.int .i64 x.op, .int .i64 x.n, .str x.nm, SL x.z x.t (x.l.map Xp.row)] 40 0 0]) (fun a => a.1 ≤ x.l.length) ?_ (0, 1, 0) (Nat.zero_le _)
    rintro ⟨i, n, d⟩ hi ih
    simp only at hi ih
    refine w_rep (by delta lp126_0; exact rfl) ?_
    rcases Nat.lt_or_ge i x.l.length with h' | h'
    · obtain ⟨y, hy, -, hm⟩ := at_some h'
      have hb := bulk_mem (f := Xp.row) hm
      obtain ⟨_, hf, n', d', rfl⟩ := nodes_fn N y (by omega) (by omega)
      have hys := xset y
      have hyr := xrow_def y
      rw [hyr] at hf hys
      simp only [go_sem, hlen, lt_t h', List.getElem?_map, hy, hyr]
      refine wx_fn hf (by simp only [go_sem]) ?_
      simp only [go_sem, inc64 (show i < 9223372036854775807 by omega)]
      exact W_keep (ih (i + 1, IntKind.i64.wrap (n + n'), max d d') (by simp; omega) h') rfl
    · simp only [go_sem, hlen, lt_f h']
      exact ⟨_, rfl, ⟨rfl, rfl, rfl⟩, _, _, rfl⟩
/-- values of any list of cells in the program's place -/
theorem names_fn {p : Gp} (hp : LnG p) (th : Int) : ∀ (N : Nat) (x : Xp), bulkRow x.row ≤ N → N ≤ 1000000000 → ∃ v, Fn TT PT 127 [.agg p.row, .int .i64 th, .agg x.row] v ∧ ∃ r : Int, v = .int .i64 r
  | 0, x, h, _ => by rw [bulkx] at h; omega
  | N + 1, x, h, hN => by
    have h1 := bulkx x
    have h2 := bulk_len (f := Xp.row) (fun x => by rw [bulkx]; omega) x.l
    have hlen : (x.l.map Xp.row).length = x.l.length := List.length_map ..
    have hx := xset x
    have ih : ∀ y ∈ x.l, ∃ v, Fn TT PT 127 [.agg p.row, .int .i64 th, .agg y.row] v ∧ ∃ r : Int, v = .int .i64 r := fun y hy => names_fn hp th N y (by have := bulk_mem (f := Xp.row) hy; omega) (by omega)
    obtain ⟨_, w1, r1, rfl, -⟩ := want_fn hp th x.nm 8 1
    obtain ⟨_, w2, r2, rfl, -⟩ := want_fn hp th x.nm 2 2
    rw [xrow_def] at hx ⊢
    have hps := gset4 p
    rw [grow4] at ih w1 w2 hps ⊢
    refine fn_rel T127 rfl ?_
    refine w_seg (fun e σ => e = [(1, .int .i64 th), (3, .ptr 0 0 0), (5, .ptr 1 0 0)] ∧ σ = [.row [SL p.dz p.dt (p.decls.map Dp.row), SL p.tz p.tt (p.thrs.map Tp.row)] 26 0 0, .row [.int .i64 x.op, .int .i64 x.n, .str x.nm, SL x.z x.t (x.l.map Xp.row)] 40 0 0]) (fun k' hk => ?_) ?_
    · simp only [go_sem]
      exact hk _ _ ⟨rfl, rfl⟩
    rintro e σ ⟨rfl, rfl⟩
    refine w_seg (fun e σ => e = [(1, .int .i64 th), (3, .ptr 0 0 0), (5, .ptr 1 0 0), (7, .int .i64 0)] ∧ σ = [.row [SL p.dz p.dt (p.decls.map Dp.row), SL p.tz p.tt (p.thrs.map Tp.row)] 26 0 0, .row [.int .i64 x.op, .int .i64 x.n, .str x.nm, SL x.z x.t (x.l.map Xp.row)] 40 0 0]) (fun k' hk => ?_) ?_
    · simp only [go_sem]
      exact hk _ _ ⟨rfl, rfl⟩
    rintro e σ ⟨rfl, rfl⟩
    refine w_seg (fun e σ => ∃ (r : Int) (X : V), (e = [(1, .int .i64 th), (3, .ptr 0 0 0), (5, .ptr 1 0 0), (7, .int .i64 r)] ∨ e = [(1, .int .i64 th), (3, .ptr 0 0 0), (5, .ptr 1 0 0), (7, .int .i64 r), (10, X)]) ∧ σ = [.row [SL p.dz p.dt (p.decls.map Dp.row), SL p.tz p.tt (p.thrs.map Tp.row)] 26 0 0, .row [.int .i64 x.op, .int .i64 x.n, .str x.nm, SL x.z x.t (x.l.map Xp.row)] 40 0 0]) (fun k' hk => ?_) ?_
    · by_cases o2 : x.op = 2
      · have q2 : (x.op == 2) = true := by simp [o2]
        simp only [go_sem, q2]
        refine wx_fn w1 (by simp only [go_sem]) ?_
        simp only [go_sem]
        exact hk _ _ ⟨_, _, .inr rfl, rfl⟩
      have q2 : (x.op == 2) = false := by simp [o2]
      by_cases o3 : x.op = 3
      · have q3 : (x.op == 3) = true := by simp [o3]
        simp only [go_sem, q2, q3]
        refine wx_fn w2 (by simp only [go_sem]) ?_
        simp only [go_sem]
        exact hk _ _ ⟨_, .und, .inl rfl, rfl⟩
      have q3 : (x.op == 3) = false := by simp [o3]
      simp only [go_sem, q2, q3]
      exact hk _ _ ⟨_, .und, .inl rfl, rfl⟩
    rintro e σ ⟨r, X, he, rfl⟩
    rcases he with rfl | rfl
    all_goals
      simp only [go_sem]
      refine loop_w (α := Nat × Int) (fun a => x.l.length - a.1) (fun a => [(1, .int .i64 th), (3, .ptr 0 0 0), (5, .ptr 1 0 0), (7, .int .i64 a.2), (8, .int .i64 (a.1 : Int))]) (fun _ => [.row [SL p.dz p.dt (p.decls.map Dp.row), SL p.tz p.tt (p.thrs.map Tp.row)] 26 0 0, .row [.int .i64 x.op, .int .i64 x.n, .str x.nm, SL x.z x.t (x.l.map Xp.row)] 40 0 0]) (fun a => a.1 ≤ x.l.length) ?_ (0, r) (Nat.zero_le _)
      rintro ⟨i, r⟩ hi jh
      simp only at hi jh
      refine w_rep (by delta lp127_0; exact rfl) ?_
      rcases Nat.lt_or_ge i x.l.length with h' | h'
      · cases r0 : (r == 0)
        · simp only [go_sem, hlen, lt_t h', r0]
          exact ⟨_, rfl, ⟨rfl, rfl, rfl⟩, _, rfl⟩
        · obtain ⟨y, hy, -, hm⟩ := at_some h'
          obtain ⟨_, hf, r', rfl⟩ := ih y hm
          have hys := xset y
          have hyr := xrow_def y
          rw [hyr] at hf hys
          simp only [go_sem, hlen, lt_t h', r0]
          refine w_drw (by kernel_rfl) ?_
          simp only [go_sem, hlen, List.getElem?_map, hy, hyr]
          refine wgx_fn hf (by simp only [go_sem]) ?_
          simp only [go_sem, inc64 (show i < 9223372036854775807 by omega)]
          exact W_keep (jh (i + 1, r') (by simp; omega) h') rfl
      · simp only [go_sem, hlen, lt_f h']
        exact ⟨_, rfl, ⟨rfl, rfl, rfl⟩, _, rfl⟩
theorem expr4_fn {p : Gp} (hp : LnG p) (th : Int) (x : Xp) (h : bulkRow x.row ≤ 1000000000) : ∃ v, Fn TT PT 111 [.agg p.row, .int .i64 th, .agg x.row] v ∧ ∃ r : Int, v = .int .i64 r := by
  have hs := shx_fn _ x h (Nat.le_refl _)
  obtain ⟨_, hn, n, d, rfl⟩ := nodes_fn _ x h (Nat.le_refl _)
  obtain ⟨_, hm, r, rfl⟩ := names_fn hp th _ x h (Nat.le_refl _)
  have hx := xset x
  have hps := gset4 p
  rw [xrow_def] at hx hs hn hm ⊢
  rw [grow4] at hm hps ⊢
  refine fn_rel T111 rfl ?_
  cases b : shX x
  · rw [b] at hs
    simp only [go_sem]
    refine wx_fn hs (by simp only [go_sem]) ?_
    simp only [go_sem, Bool.not_false]
    exact ⟨_, rfl, ⟨rfl, rfl, rfl⟩, _, rfl⟩
  rw [b] at hs
  simp only [go_sem]
  refine wx_fn hs (by simp only [go_sem]) ?_
  simp only [go_sem, Bool.not_true]
  refine wx_fn hn (by simp only [go_sem]) ?_
  by_cases c1 : 24 < n
  · have f1 : ((24 : Int) < n) = True := eq_true c1
    simp only [go_sem, gt_iff_lt, f1]
    exact ⟨_, rfl, ⟨rfl, rfl, rfl⟩, _, rfl⟩
  have f1 : ((24 : Int) < n) = False := eq_false c1
  by_cases c2 : 6 < d
  · have f2 : ((6 : Int) < d) = True := eq_true c2
    simp only [go_sem, gt_iff_lt, f1, f2]
    exact ⟨_, rfl, ⟨rfl, rfl, rfl⟩, _, rfl⟩
  have f2 : ((6 : Int) < d) = False := eq_false c2
  simp only [go_sem, gt_iff_lt, f1, f2]
  refine wx_fn hm (by simp only [go_sem]) ?_
  simp only [go_sem]
  exact ⟨_, rfl, ⟨rfl, rfl, rfl⟩, _, rfl⟩
theorem nest_fn (b : Bool) : ∃ v, Fn TT PT 112 [.bool b] v ∧ ∃ r : Int, v = .int .i64 r := by
  refine fn_rel T112 rfl ?_
  cases b
  · simp only [go_sem]
    exact ⟨_, rfl, ⟨rfl, rfl, rfl⟩, _, rfl⟩
  · simp only [go_sem]
    exact ⟨_, rfl, ⟨rfl, rfl, rfl⟩, _, rfl⟩
theorem or_fn (a b : Int) : ∃ v, Fn TT PT 109 [.int .i64 a, .int .i64 b] v ∧ ∃ r : Int, v = .int .i64 r := by
  refine fn_rel T109 rfl ?_
  cases h : (a == 0)
  · simp only [go_sem, bne, h, Bool.not_false]
    exact ⟨_, rfl, ⟨rfl, rfl, rfl⟩, _, rfl⟩
  · simp only [go_sem, bne, h, Bool.not_true]
    exact ⟨_, rfl, ⟨rfl, rfl, rfl⟩, _, rfl⟩
theorem count_fn : ∀ (N : Nat) (z : Bool) (t : Nat) (l : List Sp), bulkRows (l.map Sp.row) ≤ N → N ≤ 1000000000 → ∃ v, Fn TT PT 59 [SL z t (l.map Sp.row)] v ∧ ∃ n : Int, v = .int .i64 n
  | N, z, t, l, h, hN => by
    have h2 := bulk_len (f := Sp.row) (fun x => by rw [bulks]; omega) l
    have hlen : (l.map Sp.row).length = l.length := List.length_map ..
    refine fn_rel T59 rfl ?_
    simp only [go_sem, hlen]
    refine loop_w (α := Nat × Int) (fun a => l.length - a.1) (fun a => [(0, SL z t (l.map Sp.row)), (3, .int .i64 a.2), (4, .int .i64 (a.1 : Int))]) (fun _ => []) (fun a => a.1 ≤ l.length) ?_ (0, _) (Nat.zero_le _)
    rintro ⟨i, n⟩ hi ih
    simp only at hi ih
    refine w_rep (by delta lp59_0; exact rfl) ?_
    rcases Nat.lt_or_ge i l.length with h' | h'
    · obtain ⟨y, hy, -, hm⟩ := at_some h'
      have hb := bulk_mem (f := Sp.row) hm
      have hbs := bulks y
      cases N with
      | zero => omega
      | succ N =>
        obtain ⟨_, hf, n1, rfl⟩ := count_fn N y.bz y.bt y.body (by omega) (by omega)
        obtain ⟨_, hg, n2, rfl⟩ := count_fn N y.ez y.et y.els (by omega) (by omega)
        have hrow := srow11 y
        simp only [go_sem, hlen, lt_t h']
        refine w_drw (by kernel_rfl) ?_
        simp only [go_sem, List.getElem?_map, hy, hrow]
        refine wgx_fn hf (by simp only [go_sem]) ?_
        simp only [go_sem, List.getElem?_map, hy, hrow]
        refine wgx_fn hg (by simp only [go_sem]) ?_
        simp only [go_sem, inc64 (show i < 9223372036854775807 by omega)]
        exact W_keep (ih (i + 1, _) (by simp; omega) h') rfl
    · simp only [go_sem, hlen, lt_f h']
      exact ⟨_, rfl, ⟨rfl, rfl, rfl⟩, _, rfl⟩
end Go.Proofs.YtlehfgdhebapeaaDoor.KM
