/- Walks: a program as the static rules see it. -/
import Derived.Test.YtlehfgdhebapeaaDoorIf
import Derived.Test.YtlehfgdhebapeaaDoorGd
import Derived.Test.YtlehfgdhebapeaaDoorGg
set_option linter.all false
namespace Go.Proofs.YtlehfgdhebapeaaDoor.KM
open Go
theorem all_th {p : Gp} (hp : LnG p) : ∀ (N : Nat) (l : List Sp), bulkRows (l.map Sp.row) ≤ N → N ≤ 1000000000 → AllP p l
  | 0, l, h, hN => all_step hp (by omega) fun x hx => by
    have h1 := bulk_mem (f := Sp.row) hx
    have h2 := bulks x
    omega
  | N + 1, l, h, hN => all_step hp (by omega) fun x hx => by
    have h1 := bulk_mem (f := Sp.row) hx
    have h2 := bulks x
    exact ⟨all_th hp N x.body (by omega) (by omega), all_th hp N x.els (by omega) (by omega)⟩
def szT (l : List Tp) : Nat := (l.map fun t => Sp.szs t.body).sum
set_option maxHeartbeats 4000000 in
theorem prog4_fn {p : Gp} (hb : bulkRow p.row ≤ 1000000000) (hp : LnG p) (hz : szT p.thrs ≤ 1000000) : ∃ v, Fn TT PT 34 [.agg p.row] v ∧ Two v := by
  have hs := shg_fn p hb
  have hbg := bulkg p
  obtain ⟨_, qd, ed, ld, rfl⟩ := decls4_fn p.dz p.dt p.decls hp.d
  obtain ⟨_, qt, et, lt, rfl⟩ := threads4_fn hp
  have hps := gset4 p
  have n2 : (p.thrs.map Tp.row).length = p.thrs.length := List.length_map ..
  have ht := hp.t
  obtain ⟨hx1, hx2⟩ := cells2b hps
  rw [grow4] at hs qt hps ⊢
  have fin : ∀ (s : St) (e ln : Int), ∃ v, some (V.tup [.int .i64 e, .int .i64 ln]) = some v ∧ (okRes v = true ∧ v.refs = [] ∧ back [] v = some v) ∧ Two v := fun _ e ln => ⟨_, rfl, ⟨rfl, rfl, rfl⟩, e, ln, rfl⟩
  refine fn_rel T34 rfl ?_
  cases hsh : shG p
  · rw [hsh] at hs
    simp only [go_sem]
    refine wx_fn hs (by simp only [go_sem]) ?_
    simp only [go_sem, Bool.not_false]
    exact fin [] _ _
  rw [hsh] at hs
  simp only [go_sem]
  refine wx_fn hs (by simp only [go_sem]) ?_
  simp only [go_sem, Bool.not_true]
  refine wx_fn qd (by simp only [go_sem]) ?_
  cases y1 : (ed == 0)
  · simp only [go_sem, y1, bne, Bool.not_false]
    exact fin [] _ _
  by_cases g1 : 4 < p.thrs.length
  · have f1 : ((4 : Int) < (p.thrs.length : Int)) = True := eq_true (by omega)
    simp only [go_sem, y1, bne, Bool.not_true, n2, gt_iff_lt, f1]
    exact fin [] _ _
  have f1 : ((4 : Int) < (p.thrs.length : Int)) = False := eq_false (by omega)
  simp only [go_sem, y1, bne, Bool.not_true, n2, gt_iff_lt, f1]
  refine wx_fn qt (by simp only [go_sem]) ?_
  cases y2 : (et == 0)
  · simp only [go_sem, y2, bne, Bool.not_false]
    exact fin [] _ _
  simp only [go_sem, y2, bne, Bool.not_true]
  refine loop_w (α := Nat × Int) (fun a => p.thrs.length - a.1) (fun a => [(1, .ptr 0 0 0), (8, .int .i64 a.2), (9, .int .i64 (a.1 : Int))]) (fun _ => [.row [SL p.dz p.dt (p.decls.map Dp.row), SL p.tz p.tt (p.thrs.map Tp.row)] 26 0 0]) (fun a => a.1 ≤ p.thrs.length) ?_ (0, 0) (Nat.zero_le _)
  rintro ⟨i, n⟩ hi ih
  simp only at hi ih
  refine w_rep (by delta lp34_0; exact rfl) ?_
  rcases Nat.lt_or_ge i p.thrs.length with h' | h'
  · obtain ⟨x, hx, -, hm⟩ := at_some h'
    have hbt := bulk_mem (f := Tp.row) hm
    rw [bulkt] at hbt
    have hrow : x.row = [.str x.nm, .int .i64 x.line, SL x.lz x.lt (x.locals.map fun s => [V.str s]), SL x.bz x.bt (x.body.map Sp.row)] := rfl
    obtain ⟨_, qc, c, rfl⟩ := count_fn 1000000000 x.bz x.bt x.body (by omega) (Nat.le_refl _)
    simp only [go_sem, n2, lt_t h', List.getElem?_map, hx, hrow]
    refine wx_fn qc (by simp only [go_sem]) ?_
    simp only [go_sem, inc64 (show i < 9223372036854775807 by omega)]
    exact W_keep (ih (i + 1, _) (by simp only; omega) h') rfl
  clear ih
  by_cases g2 : 60 < n
  · have f2 : ((60 : Int) < n) = True := eq_true g2
    simp only [go_sem, n2, lt_f h', gt_iff_lt, f2]
    exact fin [] _ _
  have f2 : ((60 : Int) < n) = False := eq_false g2
  simp only [go_sem, n2, lt_f h', gt_iff_lt, f2, hx1, hx2]
  have wk0 : WK [.row [SL p.dz p.dt (p.decls.map Dp.row), SL p.tz p.tt (p.thrs.map Tp.row)] 26 0 0, .row [SL p.dz p.dt (p.decls.map Dp.row), SL p.tz p.tt (p.thrs.map Tp.row), .int .i64 0, .nils, .nils, .nils] 112 0 0] 1 p 0 .nils .nils .nils (([] : List Sp).map Sp.row) (([] : List (List UInt8)).map fun x => [V.str x]) (([] : List (List UInt8)).map fun x => [V.str x]) := by
    refine ⟨rfl, gs_nil, gs_nil, gs_nil, by simp [V.refs], by simp [V.refs], by simp [V.refs], ?_⟩
    intro ob hm j hj
    simp only [List.mem_cons, List.not_mem_nil, or_false] at hm
    rcases hm with rfl | rfl
    · simp [Ob.refs, refsL, slz_refs] at hj
    · simp [Ob.refs, refsL, slz_refs, V.refs] at hj
  refine loop_w (α := Nat × St × Int × V × V × V × List (List UInt8) × List (List UInt8)) (fun a => p.thrs.length - a.1) (fun a => [(1, .ptr 0 0 0), (10, .ptr 1 0 0), (11, .int .i64 (a.1 : Int))]) (fun a => a.2.1)
    (fun a => a.1 ≤ p.thrs.length ∧ WK a.2.1 1 p a.2.2.1 a.2.2.2.1 a.2.2.2.2.1 a.2.2.2.2.2.1 (([] : List Sp).map Sp.row) (a.2.2.2.2.2.2.1.map fun x => [V.str x]) (a.2.2.2.2.2.2.2.map fun x => [V.str x]) ∧ (a.2.1[0]? = some (.row [SL p.dz p.dt (p.decls.map Dp.row), SL p.tz p.tt (p.thrs.map Tp.row)] 26 0 0) ∧ 0 ∉ fp a.2.1 1) ∧ a.2.2.2.2.2.2.1.length + szT (p.thrs.drop a.1) ≤ 1000000 ∧ a.2.2.2.2.2.2.2.length + szT (p.thrs.drop a.1) ≤ 1000000) ?_ (0, _, 0, _, _, _, [], []) ⟨Nat.zero_le _, wk0, ⟨rfl, by rw [wk_fp wk0]; simp [V.refs]⟩, by simpa using hz, by simpa using hz⟩
  clear wk0 hi h' i g2 f2 n
  rintro ⟨i, s, th, uA, uS, uT, S, T⟩ ⟨hi, h1, ⟨hs0, hn0⟩, hS, hT⟩ ih
  simp only at hi h1 hs0 hn0 hS hT ih
  refine w_rep (by delta lp34_1; exact rfl) ?_
  rcases Nat.lt_or_ge i p.thrs.length with h' | h'
  rotate_left
  · simp only [go_sem, hs0, n2, lt_f h']
    exact fin [] _ _
  obtain ⟨x, hx, hd, hm⟩ := at_some h'
  have hbt := bulk_mem (f := Tp.row) hm
  rw [bulkt] at hbt
  have hrow : x.row = [.str x.nm, .int .i64 x.line, SL x.lz x.lt (x.locals.map fun s => [V.str s]), SL x.bz x.bt (x.body.map Sp.row)] := rfl
  have hsz : szT (p.thrs.drop i) = Sp.szs x.body + szT (p.thrs.drop (i + 1)) := by rw [hd]; simp [szT]
  obtain ⟨h2, f2⟩ := wk_new (th' := (i : Int)) h1 (Nat.le_refl _) (fun _ _ _ _ _ => rfl) h1.a h1.s h1.t (fun j hj => .inl hj) (fun j hj => .inl hj) (fun j hj => .inl hj) (fun j hj => (h1.ad j hj).2) (fun j hj => (h1.sd j hj).2) h1.cl
  obtain ⟨_, s2, q, ⟨e, ln, rfl, vA, vS, vT, S2, T2, h3, f3, bS, bT⟩⟩ := all_th hp 1000000000 x.body (by omega) (Nat.le_refl _) _ _ _ _ _ _ [] S T x.bz x.bt h2 (by simp) (by omega) (by omega)
  have hr := h1.row
  have f13 := fw_trans f2 f3
  have l0 := (List.getElem?_eq_some_iff.1 hs0).1
  have k2 : s2[0]? = _ := (f13.2.1 0 l0 hn0).trans hs0
  have k1 : (s.set 1 (.row [SL p.dz p.dt (p.decls.map Dp.row), SL p.tz p.tt (p.thrs.map Tp.row), .int .i64 (i : Int), uA, uS, uT] 112 0 0))[0]? = some (.row [SL p.dz p.dt (p.decls.map Dp.row), SL p.tz p.tt (p.thrs.map Tp.row)] 26 0 0) := by rw [List.getElem?_set_ne (by omega)]; exact hs0
  have hn2 : 0 ∉ fp s2 1 := fun hm => by
    rcases f13.2.2 0 hm with h4 | h4
    · exact hn0 h4
    · omega
  simp only [go_sem, hs0, n2, lt_t h', hr, k1, List.getElem?_map, hx, hrow]
  refine wx_th q ?_
  cases y3 : (e == 0)
  · simp only [go_sem, y3, bne, Bool.not_false]
    exact fin [] _ _
  simp only [go_sem, y3, bne, Bool.not_true, inc64 (show i < 9223372036854775807 by omega)]
  exact W_keep (ih (i + 1, s2, _, vA, vS, vT, S2, T2) (by simp only; omega) ⟨h', h3, ⟨k2, hn2⟩, by simp only; omega, by simp only; omega⟩) rfl
end Go.Proofs.YtlehfgdhebapeaaDoor.KM
/- Rows of programs: lengths, settled cells; texts of declarations. -/
namespace Go.Proofs.YtlehfgdhebapeaaDoor.KM
open Go
theorem init_le (n : Int) : (initE n).length ≤ 24 := by
  have := itoa_le n
  unfold initE
  split
  · simp
  · simp only [List.length_cons]; omega
theorem dlen {d : Dp} (h1 : d.nm.length ≤ 12) (h2 : d.on.length ≤ 12) : (declE d).length ≤ 80 := by
  have a1 := init_le d.init
  have a2 := itoa_le d.size
  have a3 : (if d.size = 0 then [] else 91 :: (itoaE d.size ++ [93])).length ≤ 23 := by
    split
    · simp
    · simp; omega
  unfold declE
  split
  · simp only [List.length_append, List.length_cons, List.length_nil]; omega
  split
  · simp only [List.length_append, List.length_cons, List.length_nil]; omega
  split
  · simp only [List.length_append, List.length_cons, List.length_nil]; omega
  split
  · simp only [List.length_append, List.length_cons, List.length_nil]; omega
  split
  · simp only [List.length_append, List.length_cons, List.length_nil]; omega
  · simp only [List.length_append, List.length_cons, List.length_nil]; omega
theorem join_cons (a : List UInt8) (l : List (List UInt8)) : (joinE (a :: l)).length ≤ a.length + 2 + (joinE l).length := by
  cases l with
  | nil => simp [joinE]
  | cons b l => simp only [joinE, List.length_append, List.length_cons]; omega
theorem row_cell {v : V} (h : v.rowB = true) : v.cellB = true := by cases v <;> simp [V.rowB] at h <;> rfl
theorem sl_rowB (z : Bool) (t : Nat) (xs : List (List V)) : (SL z t xs).rowB = true := by
  unfold SL
  split <;> rfl
theorem trow_set (x : Tp) : x.row.all V.rowB = true := by
  unfold Tp.row
  simp only [List.all_cons, List.all_nil, sl_rowB]
  rfl
theorem drows_len (D : List Dp) : ∀ r ∈ D.map Dp.row, r.length = 6 := by intro r hr; obtain ⟨x, -, rfl⟩ := List.mem_map.1 hr; rfl
theorem drows_set (D : List Dp) : ∀ r ∈ D.map Dp.row, r.all V.rowB = true := by intro r hr; obtain ⟨x, -, rfl⟩ := List.mem_map.1 hr; rfl
theorem trows_len (D : List Tp) : ∀ r ∈ D.map Tp.row, r.length = 4 := by intro r hr; obtain ⟨x, -, rfl⟩ := List.mem_map.1 hr; rfl
theorem trows_set (D : List Tp) : ∀ r ∈ D.map Tp.row, r.all V.rowB = true := by intro r hr; obtain ⟨x, -, rfl⟩ := List.mem_map.1 hr; exact trow_set x
end Go.Proofs.YtlehfgdhebapeaaDoor.KM
