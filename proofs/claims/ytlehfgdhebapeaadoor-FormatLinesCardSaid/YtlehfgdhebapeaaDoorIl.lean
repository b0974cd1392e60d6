/- Walks: the maker of programs: statements. Printed by gen_il.py. -/
import Derived.Test.YtlehfgdhebapeaaDoorIk
set_option linter.all false
namespace Go.Proofs.YtlehfgdhebapeaaDoor.KM
open Go
theorem nm4_lit {l : List UInt8} (h : (isNameE l && decide (l.length ≤ 4)) = true) : Nm4 l := by
  simp only [Bool.and_eq_true, decide_eq_true_eq] at h
  exact h
def xNm (nm : List UInt8) : Xp := ⟨2, 0, nm, true, 0, []⟩
def xNu (n : Int) : Xp := ⟨1, n, [], true, 0, []⟩
def xBi (op : Int) (nm : List UInt8) (n : Int) : Xp := ⟨op, 0, [], true, 1, [xNm nm, xNu n]⟩
theorem binL (op : Int) (nm : List UInt8) (n : Int) : Fn TT PT 63 [.int .i64 op, .agg [.int .i64 2, .int .i64 0, .str nm, .nils], .agg [.int .i64 1, .int .i64 n, .str [], .nils]] (.agg [.int .i64 op, .int .i64 0, .str [], .lst 1 [[.int .i64 2, .int .i64 0, .str nm, .nils], [.int .i64 1, .int .i64 n, .str [], .nils]]]) := by
  have h := mbin_fn op (xNm nm) (xNu n)
  rw [xrow_def ⟨op, 0, [], true, 1, [xNm nm, xNu n]⟩] at h
  simp only [List.map_cons, List.map_nil] at h
  rw [xrow_def (xNm nm), xrow_def (xNu n)] at h
  exact h
theorem bi_row (op : Int) (nm : List UInt8) (n : Int) : (xBi op nm n).l.map Xp.row = [[.int .i64 2, .int .i64 0, .str nm, .nils], [.int .i64 1, .int .i64 n, .str [], .nils]] := by
  unfold xBi
  simp only [List.map_cons, List.map_nil]
  rw [xrow_def (xNm nm), xrow_def (xNu n)]
  rfl
theorem mx_nm {nm : List UInt8} (h : Nm4 nm) (d : Nat) : MX d (xNm nm) := by
  refine ⟨.name h.1, ?_, ?_⟩
  · rw [show (xNm nm).txt = nm by unfold xNm; rw [xtxt_def]; rfl]
    have := eb_ge d
    have := h.2
    omega
  · unfold xNm
    rw [bulkx]
    have := xbk_ge d
    have := h.2
    simp [bulkRows]
    omega
theorem mx_bi {op : Int} (ho : 6 ≤ op ∧ op ≤ 18) : MX 1 (xBi op [98] 2) ∧ MX 1 (xBi op [98] 1) := by
  have key : ∀ n : Int, (n = 1 ∨ n = 2) → MX 1 (xBi op [98] n) := by
    intro n hn
    have hx : ShE (xNm [98]) := .name (by kernel_rfl)
    have hy : ShE (xNu n) := .num (by omega)
    have t1 : (xNm [98]).txt = [98] := by unfold xNm; rw [xtxt_def]; rfl
    have t2 : (xNu n).txt.length = 1 := by
      rcases hn with rfl | rfl <;> (unfold xNu; rw [xtxt_def]; rfl)
    refine ⟨.bin ho hx hy, ?_, ?_⟩
    · unfold xBi
      rw [xtxt_def]
      have h2 := (put_len ((xNm [98]).op, (xNm [98]).txt) (leftE op)).2
      have h2' := (put_len ((xNu n).op, (xNu n).txt) (lvE op + 1)).2
      simp only at h2 h2'
      have h3 : (sgE op).length ≤ 2 := sg_len2 _
      have h0 : combE op 0 [] [((xNm [98]).op, (xNm [98]).txt), ((xNu n).op, (xNu n).txt)] = putE ((xNm [98]).op, (xNm [98]).txt) (leftE op) ++ 32 :: (sgE op ++ 32 :: putE ((xNu n).op, (xNu n).txt) (lvE op + 1)) := by
        unfold combE
        rw [if_neg (by omega), if_neg (by omega)]
      have e1 : EB 1 = 54 := rfl
      have t3 : (xNm [98]).txt.length = 1 := by rw [t1]; rfl
      simp only [List.map_cons, List.map_nil, h0, List.length_append, List.length_cons]
      omega
    · have x1 : XBk 1 = 36 := rfl
      rw [bulkx]
      unfold xBi
      simp only [List.map_cons, List.map_nil, bulkRows, List.length_nil]
      rw [bulkx, bulkx, x1]
      unfold xNm xNu
      simp [bulkRows]
  exact ⟨key 2 (.inr rfl), key 1 (.inl rfl)⟩
/-- an assignment that is made -/
def asS (nm : List UInt8) (x : Xp) : Sp := ⟨1, 0, nm, [], true, 0, [], x, true, 0, [], true, 0, []⟩
theorem as_row (nm : List UInt8) (x : Xp) : (asS nm x).row = [.int .i64 1, .int .i64 0, .str nm, .str [], .nils, .int .i64 x.op, .int .i64 x.n, .str x.nm, SL x.z x.t (x.l.map Xp.row), .nils, .nils] := by
  rw [srow11]
  rfl
theorem sm_asz {k : Nat} {nm : List UInt8} {x : Xp} (hn : Nm4 nm) (hx : MX 1 x) (z : Bool) (t : Nat) (z' : Bool) (t' : Nat) : SM k ⟨1, 0, nm, [], true, 0, [], x, z, t, [], z', t', []⟩ :=
  sm_mk (by simp) (by simp) (fun h => absurd rfl h) (by simp) (.inl ⟨rfl, hx⟩) (.inr ⟨rfl, hn⟩) (.inl ⟨by simp, rfl⟩) (fun _ => rfl) (fun _ => rfl) (fun h => by have h : false = true := h; cases h)
theorem sm_as {k : Nat} {nm : List UInt8} {x : Xp} (hn : Nm4 nm) (hx : MX 1 x) : SM k (asS nm x) :=
  sm_mk (by simp [asS]) (by simp [asS]) (fun h => absurd rfl h) (by simp [asS]) (.inl ⟨rfl, hx⟩) (.inr ⟨rfl, hn⟩) (.inl ⟨by simp [asS], rfl⟩) (fun _ => rfl) (fun _ => rfl) (fun h => by have h : false = true := h; cases h)
/-- a word of the language with a name, no more -/
def naS (op : Int) (nm : List UInt8) : Sp := ⟨op, 0, nm, [], true, 0, [], Xp.zero, true, 0, [], true, 0, []⟩
theorem na_row (op : Int) (nm : List UInt8) : (naS op nm).row = [.int .i64 op, .int .i64 0, .str nm, .str [], .nils, .int .i64 0, .int .i64 0, .str [], .nils, .nils, .nils] := by
  rw [srow11]
  rfl
theorem sm_na {k : Nat} {op : Int} {nm : List UInt8} (ho : op = 9 ∨ op = 10 ∨ op = 11 ∨ op = 12 ∨ op = 13) (hn : Nm4 nm) : SM k (naS op nm) := by
  rcases ho with rfl | rfl | rfl | rfl | rfl
  all_goals exact sm_mk (by simp [naS]) (by simp [naS]) (fun _ => rfl) (by simp [naS]) (.inr ⟨rfl, rfl⟩) (.inr ⟨rfl, hn⟩) (.inl ⟨by simp [naS], rfl⟩) (fun _ => rfl) (fun _ => rfl) (fun h => by have h : false = true := h; cases h)
set_option maxRecDepth 20000 in
set_option maxHeartbeats 16000000 in
theorem mstmt_step {k : Nat} (hk : k ≤ 20) (ih : ∀ j, j < k → MSs j) : MSt k := by
  intro σ m b uH H h hH
  have hm0 := mr_lt h
  suffices hh : ∃ v σ', Th TT PT 56 [.ptr m 0 0, .int .i64 (k : Int)] σ v σ' ∧ ((∃ x : Sp, v = .agg x.row ∧ SM k x) ∧ (∃ uH', MKr σ' m b uH' H) ∧ FW m σ σ') from hh
  refine th_keepZ T56 rfl ?_
  have e3 : k ≠ 0 → IntKind.i64.wrap ((k : Int) - 1) = ((k - 1 : Nat) : Int) := fun h0 => by rw [wrap64 (by omega)]; omega
  refine w_sjoin (fun e s => e = [(0, .ptr m 0 0), (1, .int .i64 (k : Int)), (4, .ptr σ.length 0 0)] ∧ MW σ s m b H) ?_ ?_
  · intro k' hk'
    simp only [go_sem]
    obtain ⟨a1, a2⟩ := mr_push h [.row [.int .i64 0, .int .i64 0, .str [], .str [], .nils, .int .i64 0, .int .i64 0, .str [], .nils, .nils, .nils] 42 0 0] (cl_row h.cl rfl)
    exact hk' _ _ ⟨rfl, ⟨_, a1⟩, a2, by simp, fun hm => by rw [mr_fp a1, ← mr_fp h] at hm; exact mr_nfp (τ := σ) h (Nat.le_refl _) hm, hm0⟩
  clear h uH
  rintro e s ⟨rfl, h1⟩
  refine w_sjoin (fun e s => e = [(0, .ptr m 0 0), (1, .int .i64 (k : Int)), (4, .ptr σ.length 0 0)] ∧ MW σ s m b H) ?_ ?_
  · intro k' hk'
    obtain ⟨th, left, se, tx, ao, lp, vH, m1, ho⟩ := ms_row h1
    simp only [go_sem, m1]
    exact hk' _ _ ⟨rfl, (ho _ _ _ _ _ _).1⟩
  clear h1 s
  rintro e s ⟨rfl, h1⟩
  refine w_sjoin (fun e s => ∃ r : Nat, r < 18 ∧ e = [(0, .ptr m 0 0), (1, .int .i64 (k : Int)), (4, .ptr σ.length 0 0), (5, .int .i64 (r : Int))] ∧ MW σ s m b H) ?_ ?_
  · intro k' hk'
    obtain ⟨th, left, se, tx, ao, lp, vH, m1, -⟩ := ms_row h1
    obtain ⟨r, s2, q, hr, h2, w2, mm⟩ := ms_next h1 18
    simp only [go_sem, m1]
    refine wx_any q ?_
    simp only [go_sem]
    exact hk' _ _ ⟨r, by omega, rfl, h2⟩
  clear h1 s
  rintro e s ⟨r, hr, rfl, h1⟩
  refine w_sjoin (fun e s => ∃ nb : Bool, (nb = true → k ≠ 0) ∧ e = [(0, .ptr m 0 0), (1, .int .i64 (k : Int)), (4, .ptr σ.length 0 0), (5, .int .i64 (r : Int)), (6, .bool nb)] ∧ MW σ s m b H) ?_ ?_
  · intro k' hk'
    obtain ⟨th, left, se, tx, ao, lp, vH, m1, -⟩ := ms_row h1
    by_cases hk0 : k = 0
    · have f1 : ((0 : Int) < (k : Int)) = False := eq_false (by omega)
      simp only [go_sem, gt_iff_lt, f1]
      exact hk' _ _ ⟨false, (fun h => by cases h), rfl, h1⟩
    have f1 : ((0 : Int) < (k : Int)) = True := eq_true (by omega)
    by_cases hl : 0 < left
    · have f2 : ((0 : Int) < left) = True := eq_true hl
      cases tx
      · simp only [go_sem, gt_iff_lt, f1, f2, m1, Bool.not_false]
        exact hk' _ _ ⟨true, fun _ => hk0, rfl, h1⟩
      · simp only [go_sem, gt_iff_lt, f1, f2, m1, Bool.not_true]
        exact hk' _ _ ⟨false, (fun h => by cases h), rfl, h1⟩
    · have f2 : ((0 : Int) < left) = False := eq_false hl
      simp only [go_sem, gt_iff_lt, f1, f2, m1]
      exact hk' _ _ ⟨false, (fun h => by cases h), rfl, h1⟩
  clear h1 s
  rintro e s ⟨nb, hnb, rfl, h1⟩
  have hH1 : H.length ≤ 1000 := by omega
  refine w_sjoin (fun e s => e = [(0, .ptr m 0 0), (1, .int .i64 (k : Int)), (4, .ptr σ.length 0 0)] ∧ MW σ s m b H) ?_ ?_
  rotate_left
  · clear h1 s
    rintro e s ⟨rfl, h1⟩
    obtain ⟨x, s2, q2, hx, h2, w2, xs⟩ := ms_expr h1 1
    simp only [go_sem]
    refine wx_th q2 ?_
    simp only [go_sem]
    refine wx_fn (massign_fn [120] x) (by simp only [go_sem]) ?_
    simp only [go_sem, h2.z]
    exact ms_end (op := 1) (line := 0) (nm := [120]) (arg := []) (iz := true) (it := 0) (idx := []) (ex := x) (LB := []) (LE := []) h2 rfl (.inl ⟨true, 0, rfl⟩) (.inl ⟨true, 0, rfl⟩) (by rfl) fun _ _ _ _ => sm_asz (nm4_lit (by kernel_rfl)) hx _ _ _ _
  intro k' hk'
  rcases (show r < 4 ∨ r = 4 ∨ r = 5 ∨ r = 6 ∨ r = 7 ∨ r = 8 ∨ r = 9 ∨ r = 10 ∨ r = 11 ∨ r = 12 ∨ r = 13 ∨ r = 14 ∨ r = 15 ∨ r = 16 ∨ r = 17 by omega) with h4 | rfl | rfl | rfl | rfl | rfl | rfl | rfl | rfl | rfl | rfl | rfl | rfl | rfl | rfl
  · obtain ⟨nm, hn, hnl⟩ := pick_str [[120], [121], [120], [118]] (by kernel_rfl) (j := r) (by simp; omega)
    simp only [List.map_cons, List.map_nil] at hn
    have f1 : ((r : Int) < 4) = True := eq_true (by omega)
    obtain ⟨x, s2, q2, hx, h2, w2, xs⟩ := ms_expr h1 1
    simp only [go_sem, f1]
    refine w_drw (by kernel_rfl) ?_
    simp only [go_sem, hn]
    refine wgA (thp_th q2) ?_
    simp only [go_sem]
    refine wgx_fn (massign_fn nm x) (by simp only [go_sem, xs]) ?_
    simp only [go_sem, h2.z]
    refine wgE ?_
    simp only [go_sem]
    exact ms_end (op := 1) (line := 0) (nm := nm) (arg := []) (iz := true) (it := 0) (idx := []) (ex := x) (LB := []) (LE := []) h2 rfl (.inl ⟨true, 0, rfl⟩) (.inl ⟨true, 0, rfl⟩) (by rfl) fun _ _ _ _ => sm_asz hnl hx _ _ _ _
  · obtain ⟨th, left, se, tx, ao, lp, vH, m1, -⟩ := ms_row h1
    obtain ⟨j, s2, q2, hj, h2, w2, mm2⟩ := ms_next h1 2
    obtain ⟨nm, hn, hnl⟩ := pick_str [[97], [98]] (by kernel_rfl) (j := j) (by simp; omega)
    simp only [List.map_cons, List.map_nil] at hn
    obtain ⟨x, s3, q3, hx, h3, w3, xs⟩ := ms_expr h2 1
    have q2' : ThP TT PT 19 [.ptr b 0 0, .int .i64 2] s (.int .i64 (j : Int)) s2 := q2
    simp only [go_sem, Int.cast_ofNat_Int, Int.reduceLT, Int.reduceBEq]
    refine w_drw (by kernel_rfl) ?_
    simp only [go_sem, m1]
    refine wgA q2' ?_
    simp only [go_sem, hn]
    refine wgR ?_
    simp only [go_sem]
    have q3' : Th TT PT 82 [.ptr m 0 0, .int .i64 1] s2 (.agg [.int .i64 x.op, .int .i64 x.n, .str x.nm, SL x.z x.t (x.l.map Xp.row)]) s3 := q3
    refine wgA (thp_th q3') ?_
    simp only [go_sem]
    refine wgx_fn (massign_fn nm x) (by simp only [go_sem, xs]) ?_
    simp only [go_sem, h3.z]
    refine wgE ?_
    simp only [go_sem]
    exact ms_end (op := 1) (line := 0) (nm := nm) (arg := []) (iz := true) (it := 0) (idx := []) (ex := x) (LB := []) (LE := []) h3 rfl (.inl ⟨true, 0, rfl⟩) (.inl ⟨true, 0, rfl⟩) (by rfl) fun _ _ _ _ => sm_asz hnl hx _ _ _ _
  · obtain ⟨y, s2, q2, hy, h2, w2, ys⟩ := ms_expr h1 0
    obtain ⟨x, s3, q3, hx, h3, w3, xs⟩ := ms_expr h2 1
    have hyr := xrow_def y
    simp only [go_sem, Int.cast_ofNat_Int, Int.reduceLT, Int.reduceBEq]
    refine wx_th q2 ?_
    simp only [go_sem]
    refine wx_th q3 ?_
    simp only [go_sem, h3.z]
    exact ms_end (op := 1) (line := 0) (nm := [113]) (arg := []) (iz := true) (it := 1) (idx := [y]) (ex := x) (LB := []) (LE := []) h3 rfl (.inl ⟨true, 0, rfl⟩) (.inl ⟨true, 0, rfl⟩) (by simp only [List.map_cons, List.map_nil, hyr]; rfl) fun _ _ _ _ => sm_mk (by simp) (by simp) (fun h => absurd rfl h) (by simp; exact hy) (.inl ⟨rfl, hx⟩) (.inr ⟨rfl, nm4_lit (by kernel_rfl)⟩) (.inl ⟨by simp, rfl⟩) (fun _ => rfl) (fun _ => rfl) (fun h => by have h : false = true := h; cases h)
  · by_cases hk0 : k = 0
    · have f1 : ((0 : Int) < (k : Int)) = False := eq_false (by omega)
      simp only [go_sem, Int.cast_ofNat_Int, Int.reduceLT, Int.reduceBEq, gt_iff_lt, f1]
      exact hk' _ _ ⟨rfl, h1⟩
    have f1 : ((0 : Int) < (k : Int)) = True := eq_true (by omega)
    have ek := e3 hk0
    obtain ⟨x, s2, q2, hx, h2, w2, xs⟩ := ms_expr h1 1
    obtain ⟨u3, L3, s3, q3, b3, ⟨c31, c32, c33, r3⟩, ⟨L31, L32⟩, h3, w3⟩ := ms_stmts (ih (k - 1) (by omega)) h2 (by omega) 1
    obtain ⟨hp4, wp4, np4, kp4, dp4⟩ := ms_push h3 (.row [.int .i64 2, .int .i64 0, .str [], .str [], .nils, .int .i64 x.op, .int .i64 x.n, .str x.nm, SL x.z x.t (x.l.map Xp.row), u3, .nils] 42 0 0) (by simp only [Ob.refs, refsL, slz_refs, V.refs, List.nil_append, List.append_nil]; exact fun i hi => Nat.lt_succ_of_lt (gs_refs b3.1 i hi))
    obtain ⟨s4, es4⟩ : ∃ t, t = s3 ++ [Ob.row [.int .i64 2, .int .i64 0, .str [], .str [], .nils, .int .i64 x.op, .int .i64 x.n, .str x.nm, SL x.z x.t (x.l.map Xp.row), u3, .nils] 42 0 0] := ⟨_, rfl⟩
    rw [← es4] at hp4 wp4 np4 kp4
    have h4 := hp4
    have b4 := bl_fw b3 wp4
    obtain ⟨th, left, se, tx, ao, lp, vH, m4, -⟩ := ms_row h4
    obtain ⟨j, s5, q5, hj, h5, w5, mm5⟩ := ms_next h4 2
    have b5 := bl_fw b4 w5
    obtain ⟨k5, n5⟩ := fw_keep w5 kp4 np4
    simp only [go_sem, Int.cast_ofNat_Int, Int.reduceLT, Int.reduceBEq, gt_iff_lt, f1]
    refine wx_th q2 ?_
    simp only [go_sem, ek]
    refine wx_any q3 ?_
    simp only [go_sem, c31, c32, c33]
    rw [← es4]
    simp only [go_sem, m4]
    refine wx_any q5 ?_
    by_cases j1 : j = 1
    · subst j1
      obtain ⟨u6, L6, s6, q6, b6, ⟨c61, c62, c63, r6⟩, ⟨L61, L62⟩, h6, w6⟩ := ms_stmts (ih (k - 1) (by omega)) h5 (by omega) 1
      obtain ⟨k6, n6⟩ := fw_keep w6 k5 n5
      have b36 := bl_fw b5 w6
      have hs3 : σ.length < s3.length := ms_lt h3
      have hl6 : s3.length < s6.length := (List.getElem?_eq_some_iff.1 k6).1
      have hu3 : s3.length ∉ u3.refs := fun e => by have := gs_refs b3.1 _ e; omega
      have hu6 : s3.length ∉ u6.refs := fun e => by
        have := r6 _ e
        have := w5.1
        have := (List.getElem?_eq_some_iff.1 kp4).1
        omega
      have h7 := ms_put h6 (.row [.int .i64 2, .int .i64 0, .str [], .str [], .nils, .int .i64 x.op, .int .i64 x.n, .str x.nm, SL x.z x.t (x.l.map Xp.row), u3, u6] 42 0 0) hs3 n6 (by
        simp only [Ob.refs, refsL, slz_refs, V.refs, List.nil_append, List.append_nil]
        intro i hi
        rcases List.mem_append.1 hi with hi | hi
        · exact gs_refs b36.1 i hi
        · exact gs_refs b6.1 i hi)
      have k7 : (s6.set s3.length (.row [.int .i64 2, .int .i64 0, .str [], .str [], .nils, .int .i64 x.op, .int .i64 x.n, .str x.nm, SL x.z x.t (x.l.map Xp.row), u3, u6] 42 0 0))[s3.length]? = some (.row [.int .i64 2, .int .i64 0, .str [], .str [], .nils, .int .i64 x.op, .int .i64 x.n, .str x.nm, SL x.z x.t (x.l.map Xp.row), u3, u6] 42 0 0) := List.getElem?_set_self hl6
      have z7 := h7.z
      have b37 := bl_put (.row [.int .i64 2, .int .i64 0, .str [], .str [], .nils, .int .i64 x.op, .int .i64 x.n, .str x.nm, SL x.z x.t (x.l.map Xp.row), u3, u6] 42 0 0) b36 hu3 dp4
      have b67 := bl_put (.row [.int .i64 2, .int .i64 0, .str [], .str [], .nils, .int .i64 x.op, .int .i64 x.n, .str x.nm, SL x.z x.t (x.l.map Xp.row), u3, u6] 42 0 0) b6 hu6 dp4
      simp only [go_sem, Int.cast_ofNat_Int, Int.reduceBEq, ek]
      refine wx_any q6 ?_
      simp only [go_sem, k6, c61, c62, c63, c33, k7, z7]
      exact ms_end (op := 2) (line := 0) (nm := []) (arg := []) (iz := true) (it := 0) (idx := []) (ex := x) (LB := L3) (LE := L6) h7 rfl (.inr b37) (.inr b67) (by rfl) fun _ _ _ _ => sm_mk (by simp) (by simp) (fun _ => rfl) (by simp) (.inl ⟨rfl, hx⟩) (.inl ⟨rfl, rfl⟩) (.inl ⟨by simp, rfl⟩) (fun h => by have h : true = false := h; cases h) (fun h => absurd rfl h) (fun _ => ⟨hk0, ⟨Nat.le_trans L32 (by omega), L31⟩, ⟨L62, L61⟩⟩)
    · have fj : ((j : Int) == 1) = false := by simp; omega
      simp only [go_sem, fj, k5, h5.z, c33]
      exact ms_end (op := 2) (line := 0) (nm := []) (arg := []) (iz := true) (it := 0) (idx := []) (ex := x) (LB := L3) (LE := []) h5 rfl (.inr b5) (.inl ⟨true, 0, rfl⟩) (by rfl) fun _ _ _ _ => sm_mk (by simp) (by simp) (fun _ => rfl) (by simp) (.inl ⟨rfl, hx⟩) (.inl ⟨rfl, rfl⟩) (.inl ⟨by simp, rfl⟩) (fun h => by have h : true = false := h; cases h) (fun h => absurd rfl h) (fun _ => ⟨hk0, ⟨Nat.le_trans L32 (by omega), L31⟩, ⟨by simp, by simp⟩⟩)
  · by_cases hk0 : k = 0
    · have f1 : ((0 : Int) < (k : Int)) = False := eq_false (by omega)
      simp only [go_sem, Int.cast_ofNat_Int, Int.reduceLT, Int.reduceBEq, gt_iff_lt, f1]
      exact hk' _ _ ⟨rfl, h1⟩
    have f1 : ((0 : Int) < (k : Int)) = True := eq_true (by omega)
    have ek := e3 hk0
    obtain ⟨th1, left1, se1, tx1, ao1, lp1, vH1, m1, ho1⟩ := ms_row h1
    obtain ⟨h2, w2⟩ := ho1 th1 left1 se1 tx1 ao1 true
    obtain ⟨s2, es2⟩ : ∃ t, t = s.set m (.row [.ptr b 0 0, .int .i64 th1, .int .i64 left1, .bool se1, .bool tx1, .bool ao1, .bool true, vH1] 80 0 0) := ⟨_, rfl⟩
    rw [← es2] at h2 w2
    obtain ⟨u3, L3, s3, q3, b3, ⟨c31, c32, c33, r3⟩, ⟨L31, L32⟩, h3, w3⟩ := ms_stmts (ih (k - 1) (by omega)) h2 (by omega) 1
    obtain ⟨u4, s4, ha, b4, ⟨c41, c42, c43⟩, h4⟩ := bl_app b3 h3 (asS [98] (xBi 6 [98] 1)) (by omega)
    rw [as_row, bi_row] at ha
    simp only [xBi, SL, reduceCtorEq, and_false, true_and, if_false] at ha
    have xs1 := massign_fn [98] (xBi 6 [98] 1)
    rw [bi_row] at xs1
    simp only [xBi, SL, reduceCtorEq, and_false, true_and, if_false] at xs1
    obtain ⟨hp5, wp5, np5, kp5, dp5⟩ := ms_push h4 (.row [.int .i64 3, .int .i64 0, .str [], .str [], .nils, .int .i64 13, .int .i64 0, .str [], .lst 1 [[.int .i64 2, .int .i64 0, .str [98], .nils], [.int .i64 1, .int .i64 2, .str [], .nils]], u4, .nils] 42 0 0) (by simp only [Ob.refs, refsL, slz_refs, V.refs, List.nil_append, List.append_nil]; exact fun i hi => Nat.lt_succ_of_lt (gs_refs b4.1 i hi))
    obtain ⟨s5, es5⟩ : ∃ t, t = s4 ++ [Ob.row [.int .i64 3, .int .i64 0, .str [], .str [], .nils, .int .i64 13, .int .i64 0, .str [], .lst 1 [[.int .i64 2, .int .i64 0, .str [98], .nils], [.int .i64 1, .int .i64 2, .str [], .nils]], u4, .nils] 42 0 0] := ⟨_, rfl⟩
    rw [← es5] at hp5 wp5 np5 kp5
    have h5 := hp5
    have b5 := bl_fw b4 wp5
    obtain ⟨th5, left5, se5, tx5, ao5, lp5, vH5, m5, ho5⟩ := ms_row h5
    obtain ⟨h6, w6⟩ := ho5 th5 left5 se5 tx5 ao5 lp1
    obtain ⟨s6, es6⟩ : ∃ t, t = s5.set m (.row [.ptr b 0 0, .int .i64 th5, .int .i64 left5, .bool se5, .bool tx5, .bool ao5, .bool lp1, vH5] 80 0 0) := ⟨_, rfl⟩
    rw [← es6] at h6 w6
    have b6 := bl_fw b5 w6
    obtain ⟨k6, n6⟩ := fw_keep w6 kp5 np5
    simp only [go_sem, Int.cast_ofNat_Int, Int.reduceLT, Int.reduceBEq, gt_iff_lt, f1, m1]
    rw [← es2]
    refine wx_fn (nameL _) (by rfl) ?_
    simp only [go_sem]
    refine wx_fn (numL _) (by rfl) ?_
    simp only [go_sem]
    refine wx_fn (binL _ _ _) (by rfl) ?_
    simp only [go_sem, ek]
    refine wx_any q3 ?_
    simp only [go_sem]
    refine wx_fn (nameL _) (by rfl) ?_
    simp only [go_sem]
    refine wx_fn (numL _) (by rfl) ?_
    simp only [go_sem]
    refine wx_fn (binL _ _ _) (by rfl) ?_
    simp only [go_sem]
    refine wx_fn xs1 (by rfl) ?_
    simp only [go_sem, ha, c41, c42, c43]
    rw [← es5]
    simp only [go_sem, m5]
    rw [← es6]
    simp only [go_sem, k6, h6.z, c43]
    exact ms_end (op := 3) (line := 0) (nm := []) (arg := []) (iz := true) (it := 0) (idx := []) (ex := xBi 13 [98] 2) (LB := (L3 ++ [asS [98] (xBi 6 [98] 1)])) (LE := []) h6 rfl (.inr b6) (.inl ⟨true, 0, rfl⟩) (by rw [bi_row]; rfl) fun _ _ _ _ => sm_mk (by simp) (by simp) (fun _ => rfl) (by simp) (.inl ⟨rfl, (mx_bi (by omega)).1⟩) (.inl ⟨rfl, rfl⟩) (.inl ⟨by simp, rfl⟩) (fun h => by have h : true = false := h; cases h) (fun _ => rfl) (fun _ => ⟨hk0, ⟨Nat.le_trans (Nat.le_of_eq List.length_append) (by rw [List.length_singleton]; omega), fun y hy => (List.mem_append.1 hy).elim (L31 y) fun hy => by rw [List.mem_singleton.1 hy]; exact sm_as (nm4_lit (by kernel_rfl)) (mx_bi (by omega)).2⟩, ⟨by simp, by simp⟩⟩)
  · cases nb
    · simp only [go_sem, Int.cast_ofNat_Int, Int.reduceLT, Int.reduceBEq]
      exact hk' _ _ ⟨rfl, h1⟩
    have hk0 := hnb rfl
    have ek := e3 hk0
    obtain ⟨z, qh⟩ := ms_holds h1 hH1 [109]
    simp only [go_sem, Int.cast_ofNat_Int, Int.reduceLT, Int.reduceBEq, Int.reduceSub]
    refine wx_th qh ?_
    cases z
    rotate_left
    · simp only [go_sem, Int.cast_ofNat_Int, Int.reduceLT, Int.reduceBEq, Bool.not_true]
      exact hk' _ _ ⟨rfl, h1⟩
    obtain ⟨u3, L3, s3, q3, b3, ⟨c31, c32, c33, r3⟩, ⟨L31, L32⟩, h3, w3⟩ := ms_block (mblock_th (ih (k - 1) (by omega))) h1 (by omega) [109]
    simp only [go_sem, Int.cast_ofNat_Int, Int.reduceLT, Int.reduceBEq, Int.reduceSub, Bool.not_false, ek]
    refine wx_any q3 ?_
    simp only [go_sem, c31, c32, c33, h3.z]
    exact ms_end (op := 4) (line := 0) (nm := [109]) (arg := []) (iz := true) (it := 0) (idx := []) (ex := Xp.zero) (LB := L3) (LE := []) h3 rfl (.inr b3) (.inl ⟨true, 0, rfl⟩) (by rfl) fun _ _ _ _ => sm_mk (by simp) (by simp) (fun _ => rfl) (by simp) (.inr ⟨rfl, rfl⟩) (.inr ⟨rfl, nm4_lit (by kernel_rfl)⟩) (.inl ⟨by simp, rfl⟩) (fun h => by have h : true = false := h; cases h) (fun _ => rfl) (fun _ => ⟨hk0, ⟨Nat.le_trans L32 (by omega), L31⟩, ⟨by simp, by simp⟩⟩)
  · cases nb
    · simp only [go_sem, Int.cast_ofNat_Int, Int.reduceLT, Int.reduceBEq]
      exact hk' _ _ ⟨rfl, h1⟩
    have hk0 := hnb rfl
    have ek := e3 hk0
    obtain ⟨z, qh⟩ := ms_holds h1 hH1 [110]
    simp only [go_sem, Int.cast_ofNat_Int, Int.reduceLT, Int.reduceBEq, Int.reduceSub]
    refine wx_th qh ?_
    cases z
    rotate_left
    · simp only [go_sem, Int.cast_ofNat_Int, Int.reduceLT, Int.reduceBEq, Bool.not_true]
      exact hk' _ _ ⟨rfl, h1⟩
    obtain ⟨u3, L3, s3, q3, b3, ⟨c31, c32, c33, r3⟩, ⟨L31, L32⟩, h3, w3⟩ := ms_block (mblock_th (ih (k - 1) (by omega))) h1 (by omega) [110]
    simp only [go_sem, Int.cast_ofNat_Int, Int.reduceLT, Int.reduceBEq, Int.reduceSub, Bool.not_false, ek]
    refine wx_any q3 ?_
    simp only [go_sem, c31, c32, c33, h3.z]
    exact ms_end (op := 4) (line := 0) (nm := [110]) (arg := []) (iz := true) (it := 0) (idx := []) (ex := Xp.zero) (LB := L3) (LE := []) h3 rfl (.inr b3) (.inl ⟨true, 0, rfl⟩) (by rfl) fun _ _ _ _ => sm_mk (by simp) (by simp) (fun _ => rfl) (by simp) (.inr ⟨rfl, rfl⟩) (.inr ⟨rfl, nm4_lit (by kernel_rfl)⟩) (.inl ⟨by simp, rfl⟩) (fun h => by have h : true = false := h; cases h) (fun _ => rfl) (fun _ => ⟨hk0, ⟨Nat.le_trans L32 (by omega), L31⟩, ⟨by simp, by simp⟩⟩)
  · cases nb
    · simp only [go_sem, Int.cast_ofNat_Int, Int.reduceLT, Int.reduceBEq]
      exact hk' _ _ ⟨rfl, h1⟩
    have hk0 := hnb rfl
    have ek := e3 hk0
    obtain ⟨z, qh⟩ := ms_holds h1 hH1 [114]
    simp only [go_sem, Int.cast_ofNat_Int, Int.reduceLT, Int.reduceBEq, Int.reduceSub]
    refine wx_th qh ?_
    cases z
    rotate_left
    · simp only [go_sem, Int.cast_ofNat_Int, Int.reduceLT, Int.reduceBEq, Bool.not_true]
      exact hk' _ _ ⟨rfl, h1⟩
    obtain ⟨u3, L3, s3, q3, b3, ⟨c31, c32, c33, r3⟩, ⟨L31, L32⟩, h3, w3⟩ := ms_block (mblock_th (ih (k - 1) (by omega))) h1 (by omega) [114]
    simp only [go_sem, Int.cast_ofNat_Int, Int.reduceLT, Int.reduceBEq, Int.reduceSub, Int.reduceAdd, Bool.not_false, ek]
    refine wx_any q3 ?_
    simp only [go_sem, c31, c32, c33, h3.z]
    exact ms_end (op := 5) (line := 0) (nm := [114]) (arg := []) (iz := true) (it := 0) (idx := []) (ex := Xp.zero) (LB := L3) (LE := []) h3 rfl (.inr b3) (.inl ⟨true, 0, rfl⟩) (by rfl) fun _ _ _ _ => sm_mk (by simp) (by simp) (fun _ => rfl) (by simp) (.inr ⟨rfl, rfl⟩) (.inr ⟨rfl, nm4_lit (by kernel_rfl)⟩) (.inl ⟨by simp, rfl⟩) (fun h => by have h : true = false := h; cases h) (fun _ => rfl) (fun _ => ⟨hk0, ⟨Nat.le_trans L32 (by omega), L31⟩, ⟨by simp, by simp⟩⟩)
  · cases nb
    · simp only [go_sem, Int.cast_ofNat_Int, Int.reduceLT, Int.reduceBEq]
      exact hk' _ _ ⟨rfl, h1⟩
    have hk0 := hnb rfl
    have ek := e3 hk0
    obtain ⟨z, qh⟩ := ms_holds h1 hH1 [114]
    simp only [go_sem, Int.cast_ofNat_Int, Int.reduceLT, Int.reduceBEq, Int.reduceSub]
    refine wx_th qh ?_
    cases z
    rotate_left
    · simp only [go_sem, Int.cast_ofNat_Int, Int.reduceLT, Int.reduceBEq, Bool.not_true]
      exact hk' _ _ ⟨rfl, h1⟩
    obtain ⟨u3, L3, s3, q3, b3, ⟨c31, c32, c33, r3⟩, ⟨L31, L32⟩, h3, w3⟩ := ms_block (mblock_th (ih (k - 1) (by omega))) h1 (by omega) [114]
    simp only [go_sem, Int.cast_ofNat_Int, Int.reduceLT, Int.reduceBEq, Int.reduceSub, Int.reduceAdd, Bool.not_false, ek]
    refine wx_any q3 ?_
    simp only [go_sem, c31, c32, c33, h3.z]
    exact ms_end (op := 6) (line := 0) (nm := [114]) (arg := []) (iz := true) (it := 0) (idx := []) (ex := Xp.zero) (LB := L3) (LE := []) h3 rfl (.inr b3) (.inl ⟨true, 0, rfl⟩) (by rfl) fun _ _ _ _ => sm_mk (by simp) (by simp) (fun _ => rfl) (by simp) (.inr ⟨rfl, rfl⟩) (.inr ⟨rfl, nm4_lit (by kernel_rfl)⟩) (.inl ⟨by simp, rfl⟩) (fun h => by have h : true = false := h; cases h) (fun _ => rfl) (fun _ => ⟨hk0, ⟨Nat.le_trans L32 (by omega), L31⟩, ⟨by simp, by simp⟩⟩)
  · cases nb
    · simp only [go_sem, Int.cast_ofNat_Int, Int.reduceLT, Int.reduceBEq]
      exact hk' _ _ ⟨rfl, h1⟩
    have hk0 := hnb rfl
    have ek := e3 hk0
    obtain ⟨th1, left1, se1, tx1, ao1, lp1, vH1, m1, ho1⟩ := ms_row h1
    obtain ⟨h2, w2⟩ := ho1 th1 left1 se1 true ao1 lp1
    obtain ⟨s2, es2⟩ : ∃ t, t = s.set m (.row [.ptr b 0 0, .int .i64 th1, .int .i64 left1, .bool se1, .bool true, .bool ao1, .bool lp1, vH1] 80 0 0) := ⟨_, rfl⟩
    rw [← es2] at h2 w2
    obtain ⟨th2, left2, se2, tx2, ao2, lp2, vH2, m2, -⟩ := ms_row h2
    obtain ⟨j, s3, q3, hj, h3, w3, mm3⟩ := ms_next h2 2
    have ej : IntKind.i64.wrap (1 + (j : Int)) = ((1 + j : Nat) : Int) := by rw [wrap64 (by omega)]; omega
    obtain ⟨u4, L4, s4, q4, b4, ⟨c41, c42, c43, r4⟩, ⟨L41, L42⟩, h4, w4⟩ := ms_stmts (ih 0 (by omega)) h3 (by omega) (1 + j)
    obtain ⟨hp5, wp5, np5, kp5, dp5⟩ := ms_push h4 (.row [.int .i64 7, .int .i64 0, .str [], .str [], .nils, .int .i64 0, .int .i64 0, .str [], .nils, u4, .nils] 42 0 0) (by simp only [Ob.refs, refsL, slz_refs, V.refs, List.nil_append, List.append_nil]; exact fun i hi => Nat.lt_succ_of_lt (gs_refs b4.1 i hi))
    obtain ⟨s5, es5⟩ : ∃ t, t = s4 ++ [Ob.row [.int .i64 7, .int .i64 0, .str [], .str [], .nils, .int .i64 0, .int .i64 0, .str [], .nils, u4, .nils] 42 0 0] := ⟨_, rfl⟩
    rw [← es5] at hp5 wp5 np5 kp5
    have h5 := hp5
    have b5 := bl_fw b4 wp5
    obtain ⟨th5, left5, se5, tx5, ao5, lp5, vH5, m5, ho5⟩ := ms_row h5
    obtain ⟨h6, w6⟩ := ho5 th5 left5 se5 false ao5 lp5
    obtain ⟨s6, es6⟩ : ∃ t, t = s5.set m (.row [.ptr b 0 0, .int .i64 th5, .int .i64 left5, .bool se5, .bool false, .bool ao5, .bool lp5, vH5] 80 0 0) := ⟨_, rfl⟩
    rw [← es6] at h6 w6
    have b6 := bl_fw b5 w6
    obtain ⟨k6, n6⟩ := fw_keep w6 kp5 np5
    simp only [go_sem, Int.cast_ofNat_Int, Int.reduceLT, Int.reduceBEq, m1]
    rw [← es2]
    simp only [go_sem, m2]
    refine wx_any q3 ?_
    simp only [go_sem, ej]
    refine wx_any q4 ?_
    simp only [go_sem, c41, c42, c43]
    rw [← es5]
    simp only [go_sem, m5]
    rw [← es6]
    simp only [go_sem, k6, h6.z, c43]
    exact ms_end (op := 7) (line := 0) (nm := []) (arg := []) (iz := true) (it := 0) (idx := []) (ex := Xp.zero) (LB := L4) (LE := []) h6 rfl (.inr b6) (.inl ⟨true, 0, rfl⟩) (by rfl) fun _ _ _ _ => sm_mk (by simp) (by simp) (fun _ => rfl) (by simp) (.inr ⟨rfl, rfl⟩) (.inl ⟨rfl, rfl⟩) (.inl ⟨by simp, rfl⟩) (fun h => by have h : true = false := h; cases h) (fun _ => rfl) (fun _ => ⟨hk0, ⟨Nat.le_trans L42 (by omega), fun y hy => sm_mono (Nat.zero_le _) (L41 y hy)⟩, ⟨by simp, by simp⟩⟩)
  · cases nb
    · simp only [go_sem, Int.cast_ofNat_Int, Int.reduceLT, Int.reduceBEq]
      exact hk' _ _ ⟨rfl, h1⟩
    have hk0 := hnb rfl
    have ek := e3 hk0
    obtain ⟨th1, left1, se1, tx1, ao1, lp1, vH1, m1, ho1⟩ := ms_row h1
    cases ao1
    rotate_left
    · simp only [go_sem, Int.cast_ofNat_Int, Int.reduceLT, Int.reduceBEq, m1, Bool.not_true]
      exact hk' _ _ ⟨rfl, h1⟩
    obtain ⟨h2, w2⟩ := ho1 th1 left1 se1 tx1 true lp1
    obtain ⟨s2, es2⟩ : ∃ t, t = s.set m (.row [.ptr b 0 0, .int .i64 th1, .int .i64 left1, .bool se1, .bool tx1, .bool true, .bool lp1, vH1] 80 0 0) := ⟨_, rfl⟩
    rw [← es2] at h2 w2
    obtain ⟨u4, L4, s4, q4, b4, ⟨c41, c42, c43, r4⟩, ⟨L41, L42⟩, h4, w4⟩ := ms_stmts (ih (k - 1) (by omega)) h2 (by omega) 2
    obtain ⟨hp5, wp5, np5, kp5, dp5⟩ := ms_push h4 (.row [.int .i64 8, .int .i64 0, .str [], .str [], .nils, .int .i64 0, .int .i64 0, .str [], .nils, u4, .nils] 42 0 0) (by simp only [Ob.refs, refsL, slz_refs, V.refs, List.nil_append, List.append_nil]; exact fun i hi => Nat.lt_succ_of_lt (gs_refs b4.1 i hi))
    obtain ⟨s5, es5⟩ : ∃ t, t = s4 ++ [Ob.row [.int .i64 8, .int .i64 0, .str [], .str [], .nils, .int .i64 0, .int .i64 0, .str [], .nils, u4, .nils] 42 0 0] := ⟨_, rfl⟩
    rw [← es5] at hp5 wp5 np5 kp5
    have h5 := hp5
    have b5 := bl_fw b4 wp5
    obtain ⟨th5, left5, se5, tx5, ao5, lp5, vH5, m5, ho5⟩ := ms_row h5
    obtain ⟨h6, w6⟩ := ho5 th5 left5 se5 tx5 false lp5
    obtain ⟨s6, es6⟩ : ∃ t, t = s5.set m (.row [.ptr b 0 0, .int .i64 th5, .int .i64 left5, .bool se5, .bool tx5, .bool false, .bool lp5, vH5] 80 0 0) := ⟨_, rfl⟩
    rw [← es6] at h6 w6
    have b6 := bl_fw b5 w6
    obtain ⟨k6, n6⟩ := fw_keep w6 kp5 np5
    simp only [go_sem, Int.cast_ofNat_Int, Int.reduceLT, Int.reduceBEq, m1, Bool.not_false]
    rw [← es2]
    simp only [go_sem, ek]
    refine wx_any q4 ?_
    simp only [go_sem, c41, c42, c43]
    rw [← es5]
    simp only [go_sem, m5]
    rw [← es6]
    simp only [go_sem, k6, h6.z, c43]
    exact ms_end (op := 8) (line := 0) (nm := []) (arg := []) (iz := true) (it := 0) (idx := []) (ex := Xp.zero) (LB := L4) (LE := []) h6 rfl (.inr b6) (.inl ⟨true, 0, rfl⟩) (by rfl) fun _ _ _ _ => sm_mk (by simp) (by simp) (fun _ => rfl) (by simp) (.inr ⟨rfl, rfl⟩) (.inl ⟨rfl, rfl⟩) (.inl ⟨by simp, rfl⟩) (fun h => by have h : true = false := h; cases h) (fun _ => rfl) (fun _ => ⟨hk0, ⟨Nat.le_trans L42 (by omega), L41⟩, ⟨by simp, by simp⟩⟩)
  · cases nb
    · simp only [go_sem, Int.cast_ofNat_Int, Int.reduceLT, Int.reduceBEq]
      exact hk' _ _ ⟨rfl, h1⟩
    have hk0 := hnb rfl
    have ek := e3 hk0
    obtain ⟨th1, left1, se1, tx1, ao1, lp1, vH1, m1, ho1⟩ := ms_row h1
    cases ao1
    rotate_left
    · simp only [go_sem, Int.cast_ofNat_Int, Int.reduceLT, Int.reduceBEq, m1, Bool.not_true]
      exact hk' _ _ ⟨rfl, h1⟩
    obtain ⟨z, qh⟩ := ms_holds h1 hH1 [109]
    simp only [go_sem, Int.cast_ofNat_Int, Int.reduceLT, Int.reduceBEq, m1, Bool.not_false]
    refine wx_th qh ?_
    cases z
    rotate_left
    · simp only [go_sem, Int.cast_ofNat_Int, Int.reduceLT, Int.reduceBEq, Bool.not_true]
      exact hk' _ _ ⟨rfl, h1⟩
    have xs1 := massign_fn [97] (xNm [120])
    simp only [xNm, SL, List.map_nil, and_self, true_and, if_true] at xs1
    simp only [go_sem, Bool.not_false]
    refine wx_fn (nameL _) (by rfl) ?_
    simp only [go_sem]
    refine wx_fn xs1 (by rfl) ?_
    simp only [go_sem, h1.z]
    exact ms_end (op := 4) (line := 0) (nm := [109]) (arg := []) (iz := true) (it := 0) (idx := []) (ex := Xp.zero) (LB := [naS 9 [99], asS [97] (xNm [120])]) (LE := []) h1 rfl (.inl ⟨true, 1, by simp only [List.map_cons, List.map_nil, na_row, as_row]; rfl⟩) (.inl ⟨true, 0, rfl⟩) (by simp only [List.map_cons, List.map_nil, na_row, as_row]; rfl) fun _ _ _ _ => sm_mk (by simp) (by simp) (fun _ => rfl) (by simp) (.inr ⟨rfl, rfl⟩) (.inr ⟨rfl, nm4_lit (by kernel_rfl)⟩) (.inl ⟨by simp, rfl⟩) (fun h => by have h : true = false := h; cases h) (fun _ => rfl) (fun _ => ⟨hk0, ⟨by simp, fun y hy => by simp only [List.mem_cons, List.not_mem_nil, or_false] at hy; rcases hy with rfl | rfl <;> first | exact sm_na (.inl rfl) (nm4_lit (by kernel_rfl)) | exact sm_as (nm4_lit (by kernel_rfl)) (mx_nm (nm4_lit (by kernel_rfl)) 1)⟩, ⟨by simp, by simp⟩⟩)
  · cases nb
    · simp only [go_sem, Int.cast_ofNat_Int, Int.reduceLT, Int.reduceBEq]
      exact hk' _ _ ⟨rfl, h1⟩
    have hk0 := hnb rfl
    have ek := e3 hk0
    obtain ⟨z, qh⟩ := ms_holds h1 hH1 [109]
    simp only [go_sem, Int.cast_ofNat_Int, Int.reduceLT, Int.reduceBEq]
    refine wx_th qh ?_
    cases z
    rotate_left
    · simp only [go_sem, Int.cast_ofNat_Int, Int.reduceLT, Int.reduceBEq, Bool.not_true]
      exact hk' _ _ ⟨rfl, h1⟩
    obtain ⟨th1, left1, se1, tx1, ao1, lp1, vH1, m1, ho1⟩ := ms_row h1
    obtain ⟨j, s3, q3, hj, h3, w3, mm3⟩ := ms_next h1 2
    have ej : IntKind.i64.wrap (10 + (j : Int)) = 10 + (j : Int) := wrap64 (by omega)
    simp only [go_sem, Bool.not_false, m1]
    refine wx_any q3 ?_
    simp only [go_sem, ej, h3.z]
    exact ms_end (op := 4) (line := 0) (nm := [109]) (arg := []) (iz := true) (it := 0) (idx := []) (ex := Xp.zero) (LB := [naS (10 + (j : Int)) [99]]) (LE := []) h3 rfl (.inl ⟨true, 1, by simp only [List.map_cons, List.map_nil, na_row]; rfl⟩) (.inl ⟨true, 0, rfl⟩) (by simp only [List.map_cons, List.map_nil, na_row]; rfl) fun _ _ _ _ => sm_mk (by simp) (by simp) (fun _ => rfl) (by simp) (.inr ⟨rfl, rfl⟩) (.inr ⟨rfl, nm4_lit (by kernel_rfl)⟩) (.inl ⟨by simp, rfl⟩) (fun h => by have h : true = false := h; cases h) (fun _ => rfl) (fun _ => ⟨hk0, ⟨by simp, fun y hy => by rw [List.mem_singleton.1 hy]; exact sm_na (by omega) (nm4_lit (by kernel_rfl))⟩, ⟨by simp, by simp⟩⟩)
  · obtain ⟨th1, left1, se1, tx1, ao1, lp1, vH1, m1, ho1⟩ := ms_row h1
    cases tx1
    rotate_left
    · simp only [go_sem, Int.cast_ofNat_Int, Int.reduceLT, Int.reduceBEq, m1, Bool.not_true]
      exact hk' _ _ ⟨rfl, h1⟩
    cases lp1
    rotate_left
    · simp only [go_sem, Int.cast_ofNat_Int, Int.reduceLT, Int.reduceBEq, m1, Bool.not_true, Bool.not_false]
      exact hk' _ _ ⟨rfl, h1⟩
    cases se1
    rotate_left
    · simp only [go_sem, Int.cast_ofNat_Int, Int.reduceLT, Int.reduceBEq, m1, Bool.not_true, Bool.not_false]
      exact hk' _ _ ⟨rfl, h1⟩
    obtain ⟨h2, w2⟩ := ho1 th1 left1 true false ao1 false
    obtain ⟨s2, es2⟩ : ∃ t, t = s.set m (.row [.ptr b 0 0, .int .i64 th1, .int .i64 left1, .bool true, .bool false, .bool ao1, .bool false, vH1] 80 0 0) := ⟨_, rfl⟩
    rw [← es2] at h2 w2
    obtain ⟨x, s3, q3, hx, h3, w3, xs⟩ := ms_expr h2 1
    simp only [go_sem, Int.cast_ofNat_Int, Int.reduceLT, Int.reduceBEq, m1, Bool.not_false]
    rw [← es2]
    refine wx_th q3 ?_
    simp only [go_sem, h3.z]
    exact ms_end (op := 14) (line := 0) (nm := [102]) (arg := []) (iz := true) (it := 0) (idx := []) (ex := x) (LB := []) (LE := []) h3 rfl (.inl ⟨true, 0, rfl⟩) (.inl ⟨true, 0, rfl⟩) (by rfl) fun _ _ _ _ => sm_mk (by simp) (by simp) (fun _ => rfl) (by simp) (.inl ⟨rfl, hx⟩) (.inr ⟨rfl, nm4_lit (by kernel_rfl)⟩) (.inl ⟨by simp, rfl⟩) (fun _ => rfl) (fun _ => rfl) (fun h => by have h : false = true := h; cases h)
  · obtain ⟨th1, left1, se1, tx1, ao1, lp1, vH1, m1, ho1⟩ := ms_row h1
    cases tx1
    rotate_left
    · simp only [go_sem, Int.cast_ofNat_Int, Int.reduceLT, Int.reduceBEq, m1, Bool.not_true]
      exact hk' _ _ ⟨rfl, h1⟩
    obtain ⟨j, s3, q3, hj, h3, w3, mm3⟩ := ms_next h1 2
    simp only [go_sem, Int.cast_ofNat_Int, Int.reduceLT, Int.reduceBEq, m1, Bool.not_false]
    refine wx_any q3 ?_
    by_cases j1 : j = 1
    · subst j1
      simp only [go_sem, Int.cast_ofNat_Int, Int.reduceBEq, h3.z]
      exact ms_end (op := 15) (line := 0) (nm := [97]) (arg := [102]) (iz := true) (it := 0) (idx := []) (ex := Xp.zero) (LB := []) (LE := []) h3 rfl (.inl ⟨true, 0, rfl⟩) (.inl ⟨true, 0, rfl⟩) (by rfl) fun _ _ _ _ => sm_mk (by simp) (by simp) (fun _ => rfl) (by simp) (.inr ⟨rfl, rfl⟩) (.inr ⟨rfl, nm4_lit (by kernel_rfl)⟩) (.inr ⟨rfl, nm4_lit (by kernel_rfl)⟩) (fun _ => rfl) (fun _ => rfl) (fun h => by have h : false = true := h; cases h)
    · have fj : ((j : Int) == 1) = false := by simp; omega
      simp only [go_sem, fj]
      exact hk' _ _ ⟨rfl, h3⟩
/-- the maker's lists of statements -/
theorem mstmt_all : ∀ (K : Nat), K ≤ 20 → ∀ k, k ≤ K → MSt k ∧ MSs k
  | 0, hK, k, hk => by
    have h := mstmt_step (k := k) (by omega) fun j hj => by omega
    exact ⟨h, mstmts_th h⟩
  | K + 1, hK, k, hk => by
    have h := mstmt_step (k := k) (by omega) fun j hj => (mstmt_all K (by omega) j (by omega)).2
    exact ⟨h, mstmts_th h⟩
end Go.Proofs.YtlehfgdhebapeaaDoor.KM
