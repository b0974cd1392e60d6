/- Walks: the maker of programs: programs. Printed by gen_io.py. -/
import Derived.Test.YtlehfgdhebapeaaDoorIn
import Derived.Test.YtlehfgdhebapeaaDoorIl
import Derived.Test.YtlehfgdhebapeaaDoorIg
set_option linter.all false
namespace Go.Proofs.YtlehfgdhebapeaaDoor.KM
open Go
/-- what laws need of a program that is made -/
structure OKp (p : Gp) : Prop where
  sh : ShG p
  len : (progE p).length ≤ 10000000000
  siz : ∀ t ∈ p.thrs, Sp.szs t.body ≤ 1000000
  blk : bulkRow p.row ≤ 1000000
  ln : LnG p
  few : p.thrs.length ≤ 5
def MTm (t : Tp) : Prop := Nm4 t.nm ∧ t.locals = [[97], [98]] ∧ (∀ s ∈ t.body, SM 2 s) ∧ t.body.length ≤ 10
theorem mtm_mt {t : Tp} (h : MTm t) : MT t := by
  obtain ⟨h1, h2, h3, h4⟩ := h
  refine ⟨h1, ⟨?_, ?_⟩, 2, by omega, fun s hs => (h3 s hs).1, by omega⟩
  · rw [h2]; exact nm4_all (by kernel_rfl)
  · rw [h2]; simp
theorem sm_bulk : ∀ {l : List Sp}, (∀ s ∈ l, SM 2 s) → bulkRows (l.map Sp.row) ≤ l.length * 2100
  | [], _ => by simp [bulkRows]
  | x :: l, h => by
    have h1 := (h x (by simp)).2
    have h2 := sm_bulk (l := l) fun s hs => h s (by simp [hs])
    have : BK 2 = 2100 := rfl
    rw [List.map_cons, bulkRows, List.length_cons, Nat.succ_mul]
    omega
theorem mtm_bulk : ∀ {L : List Tp}, (∀ t ∈ L, MTm t) → bulkRows (L.map Tp.row) ≤ L.length * 30000
  | [], _ => by simp [bulkRows]
  | x :: l, h => by
    obtain ⟨h1, h2, h3, h4⟩ := h x (by simp)
    have h5 := mtm_bulk (L := l) fun s hs => h s (by simp [hs])
    have h6 := sm_bulk h3
    have h7 := h1.2
    have h8 : bulkRows (x.locals.map fun s => [V.str s]) = 4 := by rw [h2]; rfl
    have h9 : x.body.length * 2100 ≤ 10 * 2100 := Nat.mul_le_mul_right _ h4
    rw [List.map_cons, bulkRows, List.length_cons, Nat.succ_mul, bulkt]
    omega
theorem mtm_szt : ∀ {L : List Tp}, (∀ t ∈ L, MTm t) → szT L ≤ L.length * 1000
  | [], _ => by simp [szT]
  | x :: l, h => by
    obtain ⟨h1, h2, h3, h4⟩ := h x (by simp)
    have h5 := mtm_szt (L := l) fun s hs => h s (by simp [hs])
    have h6 := sb_siz (k := 2) (l := x.body) fun s hs => (h3 s hs).1
    have z2 : ZB 2 = 21 := rfl
    have h9 : x.body.length * ZB 2 ≤ 10 * ZB 2 := Nat.mul_le_mul_right _ h4
    have : szT (x :: l) = Sp.szs x.body + szT l := by simp [szT]
    rw [this, List.length_cons, Nat.succ_mul]
    omega
theorem made_ok {z1 z2 : Bool} {t1 t2 : Nat} {L : List Tp} (hL : ∀ t ∈ L, MTm t) (h5 : L.length ≤ 5) (h0 : L ≠ []) : OKp ⟨z1, t1, declsL, z2, t2, L⟩ ∧ szT L ≤ 1000000 := by
  obtain ⟨a, b, c⟩ := mt_ok (D := declsL) (L := L) ⟨declsL_md.1, by decide⟩ (fun t ht => mtm_mt (hL t ht)) h5 h0
  have h1 := mtm_bulk hL
  have h2 := mtm_szt hL
  have h3 : L.length * 30000 ≤ 5 * 30000 := Nat.mul_le_mul_right _ h5
  have h4 : L.length * 1000 ≤ 5 * 1000 := Nat.mul_le_mul_right _ h5
  have hd : bulkRows (declsL.map Dp.row) ≤ 1000 := by decide +kernel
  refine ⟨⟨⟨a.decls, a.nms, a.locs, a.thrs, a.some⟩, b, c, ?_, ⟨by simp only; decide, by simp only; omega, fun t ht => ?_⟩, h5⟩, by omega⟩
  · rw [bulkg]
    simp only
    omega
  · rw [(hL t ht).2.1]; simp
theorem mx_nu1 : MX 1 (xNu 1) := by
  refine ⟨.num (by omega), ?_, ?_⟩
  · have : (xNu 1).txt.length = 1 := by unfold xNu; rw [xtxt_def]; rfl
    have e1 : EB 1 = 54 := rfl
    omega
  · unfold xNu
    rw [bulkx]
    have x1 : XBk 1 = 36 := rfl
    simp [bulkRows]
    omega
theorem fn_pm {f p : Nat} {res : List AR} {body : AC} {vs : List V} {R : Gp → Prop} (hT : TT f = some ⟨p, res, false, body, none⟩) (hl : vs.length = p)
    (h : W TT PT [.c body] (parEnv 0 vs) [] (Hd fun e' σ1 => ∃ u1 u2 z1 t1 z2 t2 D L, resV e' σ1 res = some (.agg [u1, u2]) ∧ (OC σ1 u1 (SL z1 t1 (D.map Dp.row)) ∧ u1.cellB = true) ∧ (OC σ1 u2 (SL z2 t2 (L.map Tp.row)) ∧ u2.cellB = true) ∧ R ⟨z1, t1, D, z2, t2, L⟩)) : ∃ p : Gp, Fn TT PT f vs (.agg p.row) ∧ R p := by
  obtain ⟨e', σ1, hE, u1, u2, z1, t1, z2, t2, D, L, hr, ⟨h1, c1⟩, ⟨h2, c2⟩, hR⟩ := h
  refine ⟨⟨z1, t1, D, z2, t2, L⟩, ?_, hR⟩
  have hov : OV σ1 (.agg [u1, u2]) (.agg [SL z1 t1 (D.map Dp.row), SL z2 t2 (L.map Tp.row)]) := ov_agg (.cons h1 (.cons h2 .nil))
  have hset : setC (.agg [SL z1 t1 (D.map Dp.row), SL z2 t2 (L.map Tp.row)]) = true := by simp only [setC, List.all_cons, List.all_nil, sl_rowB]; rfl
  refine FnS_intro hT rfl rfl hl ⟨e', σ1, hE, .agg [u1, u2], refsL [u1, u2], hr, ?_, hov _ (fun i hi => hi), ?_, ?_⟩
  · show ([u1, u2].all V.cellB) = true
    simp only [List.all_cons, List.all_nil, c1, c2]
    rfl
  · exact setC_refs hset
  · exact settle1_set hset
theorem dec_oc {s : St} (h : s[3]? = some (.row (declsL.map Dp.row).flatten 60 0 0)) : OC s (.sl 3 0 0 9 6 true) (SL true 0 (declsL.map Dp.row)) ∧ (V.sl 3 0 0 9 6 true).cellB = true :=
  ⟨oc_sl (xs := declsL.map Dp.row) h (by omega) (drows_len declsL) (drows_set declsL), rfl⟩
set_option maxRecDepth 20000 in
set_option maxHeartbeats 16000000 in
theorem mprog_fn (z : Bool) (t : Nat) (l : List UInt8) (hl : l.length ≤ 9223372036854775807) : ∃ p : Gp, Fn TT PT 11 [SL z t (byteRows l)] (.agg p.row) ∧ OKp p := by
  refine fn_pm T11 rfl ?_
  refine w_sjoin (fun e s => e = [(0, SL z t (byteRows l)), (2, .ptr 0 0 0)] ∧ s = [.row [.nils, .nils] 26 0 0]) ?_ ?_
  · intro k' hk'
    simp only [go_sem]
    exact hk' _ _ ⟨rfl, rfl⟩
  rintro _ _ ⟨rfl, rfl⟩
  refine w_sjoin (fun e s => e = [(2, .ptr 0 0 0), (3, .ptr 2 0 0)] ∧ s = [.row [.nils, .nils] 26 0 0, .row [SL z t (byteRows l), .int .i64 0] 54 0 0, .row [.ptr 1 0 0, .int .i64 0, .int .i64 20, .bool false, .bool false, .bool false, .bool false, .nils] 80 0 0]) ?_ ?_
  · intro k' hk'
    have hb : V.cellB (SL z t (byteRows l)) = true := row_cell (sl_rowB _ _ _)
    simp only [go_sem, hb]
    exact hk' _ _ ⟨rfl, rfl⟩
  rintro _ _ ⟨rfl, rfl⟩
  refine w_sjoin (fun e s => e = [(2, .ptr 0 0 0), (3, .ptr 2 0 0), (4, .ptr 4 0 0)] ∧ PW s .nils []) ?_ ?_
  · intro k' hk'
    simp only [go_sem]
    refine wx_call (decls_call _) ?_
    simp only [go_sem]
    have mk0 : MKr [.row [.nils, .nils] 26 0 0, .row [SL z t (byteRows l), .int .i64 0] 54 0 0, .row [.ptr 1 0 0, .int .i64 0, .int .i64 20, .bool false, .bool false, .bool false, .bool false, .nils] 80 0 0, .row (declsL.map Dp.row).flatten 60 0 0, .row [.sl 3 0 0 9 6 true, .nils] 26 0 0] 2 1 .nils [] := by
      refine ⟨⟨0, 20, false, false, false, false, rfl⟩, ⟨z, t, l, 0, rfl, Nat.zero_le _, hl⟩, by decide, gs_nil, by simp [V.refs], ?_⟩
      intro ob hm j hj
      simp only [List.mem_cons, List.not_mem_nil, or_false] at hm
      rcases hm with rfl | rfl | rfl | rfl | rfl
      · simp [Ob.refs, refsL, V.refs] at hj
      · simp [Ob.refs, refsL, V.refs, slz_refs] at hj
      · simp [Ob.refs, refsL, V.refs] at hj; subst hj; simp
      · simp only [Ob.refs, declsL_refs] at hj; cases hj
      · simp [Ob.refs, refsL, V.refs] at hj; subst hj; simp
    have hf := mr_fp mk0
    exact hk' _ _ ⟨rfl, ⟨_, mk0⟩, by simp, rfl, rfl, rfl, by rw [hf]; simp [V.refs], by rw [hf]; simp [V.refs], by rw [hf]; simp [V.refs], gw_nil, by simp [V.refs]⟩
  rintro _ s ⟨rfl, pw⟩
  refine w_sjoin (fun e s => ∃ n : Nat, (2 ≤ n ∧ n ≤ 4) ∧ e = [(2, .ptr 0 0 0), (3, .ptr 2 0 0), (4, .ptr 4 0 0), (5, .int .i64 (n : Int))] ∧ PW s .nils []) ?_ ?_
  · intro k' hk'
    obtain ⟨_, _, _, _, _, _, _, m1, -⟩ := pw_row pw
    obtain ⟨uH, hk⟩ := pw.hk
    obtain ⟨r, s2, q2, h2, w2, l2, r2, m2⟩ := mr_next hk 3 3 rfl (by omega)
    have en : IntKind.i64.wrap (2 + (r : Int)) = ((2 + r : Nat) : Int) := by rw [wrap64 (by omega)]; omega
    simp only [go_sem, m1]
    refine wx_any q2 ?_
    simp only [go_sem, en]
    exact hk' _ _ ⟨2 + r, by omega, rfl, pw_fw pw h2 w2⟩
  clear pw s
  rintro _ s ⟨n, hn, rfl, pw⟩
  refine w_sjoin (fun e s => e = [(2, .ptr 0 0 0), (3, .ptr 2 0 0), (4, .ptr 4 0 0), (5, .int .i64 (n : Int)), (6, .lst 1 [[.str [109, 97, 105, 110]], [.str [116, 49]], [.str [116, 50]], [.str [116, 51]]])] ∧ PW s .nils []) ?_ ?_
  · intro k' hk'
    simp only [go_sem]
    exact hk' _ _ ⟨rfl, pw⟩
  clear pw s
  rintro _ s ⟨rfl, pw⟩
  refine w_sjoin (fun e s => (∃ i : Nat, e = [(2, .ptr 0 0 0), (3, .ptr 2 0 0), (4, .ptr 4 0 0), (5, .int .i64 (n : Int)), (6, .lst 1 [[.str [109, 97, 105, 110]], [.str [116, 49]], [.str [116, 50]], [.str [116, 51]]]), (7, .int .i64 (i : Int))]) ∧ ∃ u2 L, PW s u2 L ∧ (∀ t ∈ L, MTm t) ∧ L.length ≤ 5 ∧ L ≠ []) ?_ ?_
  · intro k' hk'
    simp only [go_sem]
    refine loop_w (α := Nat × St × V × List Tp) (fun a => n - a.1) (fun a => [(2, .ptr 0 0 0), (3, .ptr 2 0 0), (4, .ptr 4 0 0), (5, .int .i64 (n : Int)), (6, .lst 1 [[.str [109, 97, 105, 110]], [.str [116, 49]], [.str [116, 50]], [.str [116, 51]]]), (7, .int .i64 (a.1 : Int))]) (fun a => a.2.1) (fun a => a.1 ≤ n ∧ PW a.2.1 a.2.2.1 a.2.2.2 ∧ (∀ t ∈ a.2.2.2, MTm t) ∧ a.2.2.2.length = a.1) ?_ (0, s, .nils, []) ⟨Nat.zero_le _, pw, (fun d hd => by cases hd), rfl⟩
    clear pw s
    rintro ⟨i, s, u2, L⟩ ⟨hi, pw, hL, hLl⟩ ih
    simp only at hi pw hL hLl ih
    refine w_rep (by delta lp11_1; exact rfl) ?_
    rcases Nat.lt_or_ge i n with h' | h'
    rotate_left
    · simp only [go_sem, lt_f h']
      exact hk' _ _ ⟨⟨i, rfl⟩, u2, L, pw, hL, by omega, fun e => by rw [e] at hLl; simp at hLl; omega⟩
    obtain ⟨nm, hnm, hnl⟩ := pick_str [[109, 97, 105, 110], [116, 49], [116, 50], [116, 51]] (by kernel_rfl) (j := i) (by simp; omega)
    simp only [List.map_cons, List.map_nil] at hnm
    refine w_sjoin (fun e s' => e = [(2, .ptr 0 0 0), (3, .ptr 2 0 0), (4, .ptr 4 0 0), (5, .int .i64 (n : Int)), (6, .lst 1 [[.str [109, 97, 105, 110]], [.str [116, 49]], [.str [116, 50]], [.str [116, 51]]]), (7, .int .i64 (i : Int))] ∧ s' = s) ?_ ?_
    · intro k' hk'
      simp only [go_sem, lt_t h']
      exact hk' _ _ ⟨rfl, rfl⟩
    rintro _ s' ⟨rfl, e0⟩
    rw [e0]
    clear e0 s'
    refine w_sjoin (fun e s' => (e = [(2, .ptr 0 0 0), (3, .ptr 2 0 0), (4, .ptr 4 0 0), (5, .int .i64 (n : Int)), (6, .lst 1 [[.str [109, 97, 105, 110]], [.str [116, 49]], [.str [116, 50]], [.str [116, 51]]]), (7, .int .i64 (i : Int))] ∨ ∃ v, e = [(2, .ptr 0 0 0), (3, .ptr 2 0 0), (4, .ptr 4 0 0), (5, .int .i64 (n : Int)), (6, .lst 1 [[.str [109, 97, 105, 110]], [.str [116, 49]], [.str [116, 50]], [.str [116, 51]]]), (7, .int .i64 (i : Int)), (9, v)]) ∧ ∃ u' t, PW s' u' (L ++ [t]) ∧ MTm t) ?_ ?_
    rotate_left
    · clear pw hnm hnl
      rintro e s ⟨he, u', t, pw, ht⟩
      have hL' : ∀ x ∈ L ++ [t], MTm x := fun x hx => (List.mem_append.1 hx).elim (hL x) fun hx => by rw [List.mem_singleton.1 hx]; exact ht
      rcases he with rfl | ⟨v, rfl⟩
      all_goals
        simp only [go_sem, inc64 (show i < 9223372036854775807 by omega)]
        exact W_keep (ih (i + 1, s, u', L ++ [t]) (by simp only; omega) ⟨h', pw, hL', by rw [List.length_append, List.length_singleton, hLl]⟩) rfl
    clear ih hk' k'
    intro k' hk'
    rw [w_blk]
    refine w_sjoin (fun e s' => e = [(2, .ptr 0 0 0), (3, .ptr 2 0 0), (4, .ptr 4 0 0), (5, .int .i64 (n : Int)), (6, .lst 1 [[.str [109, 97, 105, 110]], [.str [116, 49]], [.str [116, 50]], [.str [116, 51]]]), (7, .int .i64 (i : Int))] ∧ PW s' u2 L) ?_ ?_
    · intro k2 hk2
      obtain ⟨_, _, _, _, _, _, _, m1, ho⟩ := pw_row pw
      simp only [go_sem, m1]
      exact hk2 _ _ ⟨rfl, ho _ _ _ _ _ _⟩
    clear pw s
    rintro _ s0 ⟨rfl, pw⟩
    refine w_sjoin (fun e s' => e = [(2, .ptr 0 0 0), (3, .ptr 2 0 0), (4, .ptr 4 0 0), (5, .int .i64 (n : Int)), (6, .lst 1 [[.str [109, 97, 105, 110]], [.str [116, 49]], [.str [116, 50]], [.str [116, 51]]]), (7, .int .i64 (i : Int)), (8, .ptr s0.length 0 0)] ∧ TH s0 s' nm u2 L .nils []) ?_ ?_
    · intro k2 hk2
      simp only [go_sem, hnm]
      exact hk2 _ _ ⟨rfl, th_new pw nm⟩
    clear pw
    rintro _ s ⟨rfl, th⟩
    refine w_sjoin (fun e s' => (e = [(2, .ptr 0 0 0), (3, .ptr 2 0 0), (4, .ptr 4 0 0), (5, .int .i64 (n : Int)), (6, .lst 1 [[.str [109, 97, 105, 110]], [.str [116, 49]], [.str [116, 50]], [.str [116, 51]]]), (7, .int .i64 (i : Int)), (8, .ptr s0.length 0 0)] ∨ ∃ v, e = [(2, .ptr 0 0 0), (3, .ptr 2 0 0), (4, .ptr 4 0 0), (5, .int .i64 (n : Int)), (6, .lst 1 [[.str [109, 97, 105, 110]], [.str [116, 49]], [.str [116, 50]], [.str [116, 51]]]), (7, .int .i64 (i : Int)), (8, .ptr s0.length 0 0), (9, v)]) ∧ ∃ uB B, TH s0 s' nm u2 L uB B ∧ (∀ x ∈ B, SM 2 x) ∧ B.length ≤ 3) ?_ ?_
    · intro k2 hk2
      by_cases hi0 : i = 0
      rotate_left
      · have f1 : ((i : Int) == 0) = false := by simp; omega
        simp only [go_sem, f1]
        exact hk2 _ _ ⟨.inl rfl, _, _, th, (fun x hx => by cases hx), by simp⟩
      · have f1 : ((i : Int) == 0) = true := by simp [hi0]
        simp only [go_sem, f1]
        refine loop_w (α := Nat × St × V × List Sp) (fun a => n - a.1) (fun a => [(2, .ptr 0 0 0), (3, .ptr 2 0 0), (4, .ptr 4 0 0), (5, .int .i64 (n : Int)), (6, .lst 1 [[.str [109, 97, 105, 110]], [.str [116, 49]], [.str [116, 50]], [.str [116, 51]]]), (7, .int .i64 (i : Int)), (8, .ptr s0.length 0 0), (9, .int .i64 (a.1 : Int))]) (fun a => a.2.1) (fun a => (1 ≤ a.1 ∧ a.1 ≤ n) ∧ TH s0 a.2.1 nm u2 L a.2.2.1 a.2.2.2 ∧ (∀ x ∈ a.2.2.2, SM 2 x) ∧ a.2.2.2.length + 1 = a.1) ?_ (1, s, .nils, []) ⟨by simp only; omega, th, (fun d hd => by cases hd), rfl⟩
        clear th s
        rintro ⟨j, s, uB, B⟩ ⟨hj, th, hB, hBl⟩ ih
        simp only at hj th hB hBl ih
        refine w_rep (by delta lp11_0; exact rfl) ?_
        rcases Nat.lt_or_ge j n with h3 | h3
        rotate_left
        · simp only [go_sem, lt_f h3]
          exact hk2 _ _ ⟨.inr ⟨_, rfl⟩, uB, B, th, hB, by omega⟩
        obtain ⟨nj, hnj, hnjl⟩ := pick_str [[109, 97, 105, 110], [116, 49], [116, 50], [116, 51]] (by kernel_rfl) (j := j) (by simp; omega)
        simp only [List.map_cons, List.map_nil] at hnj
        obtain ⟨u', s', ha, ⟨c1, c2, c3⟩, r', -, th'⟩ := th_app th (y := .lst 1 [(naS 12 nj).row]) (C := [naS 12 nj]) rfl (by simp; omega)
        rw [na_row] at ha
        have r1 := th.r
        simp only [go_sem, lt_t h3]
        refine w_drw (by kernel_rfl) ?_
        simp only [go_sem, r1, hnj]
        refine wgE ?_
        simp only [go_sem, ha]
        refine wgE ?_
        simp only [go_sem, r', c1, c2, c3]
        refine wgE ?_
        simp only [go_sem, inc64 (show j < 9223372036854775807 by omega)]
        refine W_keep (ih (j + 1, _, u', B ++ [naS 12 nj]) (by simp only; omega) ⟨by simp only; omega, th', fun x hx => ?_, by rw [List.length_append, List.length_singleton, hBl]⟩) rfl
        rcases List.mem_append.1 hx with hx | hx
        · exact hB x hx
        · rw [List.mem_singleton.1 hx]; exact sm_na (by omega) hnjl
    clear th s
    rintro e s ⟨he, uB, B, th, hB, hBl⟩
    refine w_sjoin (fun e s' => (e = [(2, .ptr 0 0 0), (3, .ptr 2 0 0), (4, .ptr 4 0 0), (5, .int .i64 (n : Int)), (6, .lst 1 [[.str [109, 97, 105, 110]], [.str [116, 49]], [.str [116, 50]], [.str [116, 51]]]), (7, .int .i64 (i : Int)), (8, .ptr s0.length 0 0)] ∨ ∃ v, e = [(2, .ptr 0 0 0), (3, .ptr 2 0 0), (4, .ptr 4 0 0), (5, .int .i64 (n : Int)), (6, .lst 1 [[.str [109, 97, 105, 110]], [.str [116, 49]], [.str [116, 50]], [.str [116, 51]]]), (7, .int .i64 (i : Int)), (8, .ptr s0.length 0 0), (9, v)]) ∧ ∃ uB B, TH s0 s' nm u2 L uB B ∧ (∀ x ∈ B, SM 2 x) ∧ B.length ≤ 8) ?_ ?_
    · intro k2 hk2
      obtain ⟨_, _, _, _, _, _, _, m1, -⟩ := pw_row th.pw
      obtain ⟨uH, hk⟩ := th.pw.hk
      obtain ⟨r, s2, q2, h2, w2, l2, rb, mm2⟩ := mr_next hk 3 3 rfl (by omega)
      have th2 := th_fw th h2 w2
      have er : IntKind.i64.wrap (1 + (r : Int)) = ((1 + r : Nat) : Int) := by rw [wrap64 (by omega)]; omega
      obtain ⟨u, s3, q3, L3, uH3, hO, hL3, hL3l, h3, w3⟩ := (mstmt_all 2 (by omega) 2 (by omega)).2 s2 2 1 uH [] h2 (by simp) (1 + r) (by omega)
      have th3 := th_fw th2 h3 w3
      obtain ⟨u', s', ha, ⟨c1, c2, c3⟩, r', mm', th'⟩ := th_app th3 (C := L3) (gs_src hO.1) (by omega)
      have m2 := mm2.trans m1
      obtain ⟨_, _, _, _, _, _, _, m3, -⟩ := pw_row th3.pw
      have m4 := mm'.trans m3
      have r1 := th.r
      have r2 := th2.r
      have r3 := th3.r
      have q3 : ThP TT PT 33 [.ptr 2 0 0, .int .i64 2, .int .i64 ((1 + r : Nat) : Int)] s2 u s3 := q3
      rcases he with rfl | ⟨v, rfl⟩
      all_goals
        refine w_drw (by kernel_rfl) ?_
        simp only [go_sem, r1, m1]
        refine wgA q2 ?_
        simp only [go_sem, er]
        refine wgA q3 ?_
        simp only [go_sem, ha]
        refine wgE ?_
        simp only [go_sem, r', c1, c2, c3]
        refine wgE ?_
        simp only [go_sem]
      · exact hk2 _ _ ⟨.inl rfl, _, _, th', fun x hx => (List.mem_append.1 hx).elim (hB x) (hL3 x), by rw [List.length_append]; omega⟩
      · exact hk2 _ _ ⟨.inr ⟨_, rfl⟩, _, _, th', fun x hx => (List.mem_append.1 hx).elim (hB x) (hL3 x), by rw [List.length_append]; omega⟩
    clear th hB hBl he uB B s e
    rintro e s ⟨he, uB, B, th, hB, hBl⟩
    refine w_sjoin (fun e s' => (e = [(2, .ptr 0 0 0), (3, .ptr 2 0 0), (4, .ptr 4 0 0), (5, .int .i64 (n : Int)), (6, .lst 1 [[.str [109, 97, 105, 110]], [.str [116, 49]], [.str [116, 50]], [.str [116, 51]]]), (7, .int .i64 (i : Int)), (8, .ptr s0.length 0 0)] ∨ ∃ v, e = [(2, .ptr 0 0 0), (3, .ptr 2 0 0), (4, .ptr 4 0 0), (5, .int .i64 (n : Int)), (6, .lst 1 [[.str [109, 97, 105, 110]], [.str [116, 49]], [.str [116, 50]], [.str [116, 51]]]), (7, .int .i64 (i : Int)), (8, .ptr s0.length 0 0), (9, v)]) ∧ ∃ uB B, TH s0 s' nm u2 L uB B ∧ (∀ x ∈ B, SM 2 x) ∧ B.length ≤ 9) ?_ ?_
    · intro k2 hk2
      by_cases hi0 : i = 0
      rotate_left
      · have f1 : ((i : Int) == 0) = false := by simp; omega
        rcases he with rfl | ⟨v, rfl⟩
        all_goals simp only [go_sem, f1]
        · exact hk2 _ _ ⟨.inl rfl, _, _, th, hB, by omega⟩
        · exact hk2 _ _ ⟨.inr ⟨_, rfl⟩, _, _, th, hB, by omega⟩
      have f1 : ((i : Int) == 0) = true := by simp [hi0]
      obtain ⟨_, _, _, _, _, _, _, m1, -⟩ := pw_row th.pw
      obtain ⟨uH, hk⟩ := th.pw.hk
      obtain ⟨r, s2, q2, h2, w2, l2, rb, mm2⟩ := mr_next hk 3 3 rfl (by omega)
      have th2 := th_fw th h2 w2
      by_cases hr2 : r = 2
      · subst hr2
        obtain ⟨u', s', ha, ⟨c1, c2, c3⟩, r', mm', th'⟩ := th_app th2 (y := .lst 1 [(naS 13 [116, 49]).row]) (C := [naS 13 [116, 49]]) rfl (by simp; omega)
        rw [na_row] at ha
        have r2 := th2.r
        rcases he with rfl | ⟨v, rfl⟩
        all_goals
          simp only [go_sem, f1, m1]
          refine wx_any q2 ?_
          simp only [go_sem, Int.cast_ofNat_Int, Int.reduceBEq]
          refine w_drw (by kernel_rfl) ?_
          simp only [go_sem, r2]
          refine wgE ?_
          simp only [go_sem, ha]
          refine wgE ?_
          simp only [go_sem, r', c1, c2, c3]
          refine wgE ?_
          simp only [go_sem]
        · exact hk2 _ _ ⟨.inl rfl, _, _, th', fun x hx => (List.mem_append.1 hx).elim (hB x) fun hx => by rw [List.mem_singleton.1 hx]; exact sm_na (by omega) (nm4_lit (by kernel_rfl)), by rw [List.length_append, List.length_singleton]; omega⟩
        · exact hk2 _ _ ⟨.inr ⟨_, rfl⟩, _, _, th', fun x hx => (List.mem_append.1 hx).elim (hB x) fun hx => by rw [List.mem_singleton.1 hx]; exact sm_na (by omega) (nm4_lit (by kernel_rfl)), by rw [List.length_append, List.length_singleton]; omega⟩
      · have fr : ((r : Int) == 2) = false := by simp; omega
        rcases he with rfl | ⟨v, rfl⟩
        all_goals
          simp only [go_sem, f1, m1]
          refine wx_any q2 ?_
          simp only [go_sem, fr]
        · exact hk2 _ _ ⟨.inl rfl, _, _, th2, hB, by omega⟩
        · exact hk2 _ _ ⟨.inr ⟨_, rfl⟩, _, _, th2, hB, by omega⟩
    clear th hB hBl he uB B s e
    rintro e s ⟨he, uB, B, th, hB, hBl⟩
    obtain ⟨s1, u', s2, e1, e2, ⟨c1, c2, c3⟩, p2, pw2⟩ := th_end th (by omega)
    have r1 := th.r
    have p1 := th.pw.p
    have hub : V.cellB uB = true := gw_cell th.g
    rcases he with rfl | ⟨v, rfl⟩
    all_goals
      simp only [go_sem, r1, p1, hub, e1, e2, p2, c1, c2, c3]
    · exact hk' _ _ ⟨.inl rfl, u', _, pw2, hnl, rfl, hB, by simp only; omega⟩
    · exact hk' _ _ ⟨.inr ⟨_, rfl⟩, u', _, pw2, hnl, rfl, hB, by simp only; omega⟩
  clear pw s
  rintro _ s ⟨⟨i, rfl⟩, u2, L, pw, hL, hLl, hL0⟩
  obtain ⟨hok, hsz⟩ := made_ok (z1 := true) (t1 := 0) (z2 := true) (t2 := 0) hL hLl hL0
  obtain ⟨o1, c1⟩ := dec_oc pw.d
  have o2 := gw_oc pw.g (by omega) (trows_len L) (trows_set L)
  have c2 := gw_cell pw.g
  obtain ⟨_, q4, e4, l4, rfl⟩ := prog4_fn (Nat.le_trans hok.blk (by omega)) hok.ln hsz
  have p1 := pw.p
  have z1 := pw.z
  have hrow : Gp.row ⟨true, 0, declsL, true, 0, L⟩ = [SL true 0 (declsL.map Dp.row), SL true 0 (L.map Tp.row)] := rfl
  rw [hrow] at q4
  simp only [go_sem, p1]
  refine wx_fo (.cons (ov_agg (.cons o1 (.cons o2 .nil))) .nil) q4 (by rfl) ?_
  by_cases h0 : e4 = 0
  · have f1 : (e4 == 0) = true := by simp [h0]
    simp only [go_sem, bne, f1, Bool.not_true, p1, z1, c1, c2]
    have z5 : (s.set 0 (.row [.sl 3 0 0 9 6 true, u2] 26 0 0))[0]? = some (.row [.sl 3 0 0 9 6 true, u2] 26 0 0) := List.getElem?_set_self (by have := pw.l5; omega)
    refine ⟨_, _, true, 0, true, 0, declsL, L, resN z5 rfl rfl, dec_oc (by rw [List.getElem?_set_ne (by omega)]; exact pw.d), ⟨?_, c2⟩, hok⟩
    exact gw_oc (gw_any pw.g fun j hj => List.getElem?_set_ne fun e => by have := (gw_rng pw.g j hj).1; omega) (by omega) (trows_len L) (trows_set L)
  · have f1 : (e4 == 0) = false := by simp [h0]
    have xs1 := massign_fn [120] (xNu 1)
    simp only [xNu, SL, List.map_nil, and_self, true_and, if_true] at xs1
    have hl5 := pw.l5
    simp only [go_sem, bne, f1, Bool.not_false]
    refine wx_call (decls_call _) ?_
    simp only [go_sem]
    refine wx_fn (numL _) (by rfl) ?_
    simp only [go_sem]
    refine wx_fn xs1 (by rfl) ?_
    have z6 := get_app_some (l := ([.row (declsL.map Dp.row).flatten 60 0 0] : St)) z1
    simp only [go_sem, z6]
    have z5 : ((s ++ ([.row (declsL.map Dp.row).flatten 60 0 0] : St)).set 0 (.row [.sl s.length 0 0 9 6 true, .lst 1 [[.str [109, 97, 105, 110], .int .i64 0, .lst 1 [[.str [97]], [.str [98]]], .lst 1 [[.int .i64 1, .int .i64 0, .str [120], .str [], .nils, .int .i64 1, .int .i64 1, .str [], .nils, .nils, .nils]]]]] 26 0 0))[0]? = some (.row [.sl s.length 0 0 9 6 true, .lst 1 [[.str [109, 97, 105, 110], .int .i64 0, .lst 1 [[.str [97]], [.str [98]]], .lst 1 [[.int .i64 1, .int .i64 0, .str [120], .str [], .nils, .int .i64 1, .int .i64 1, .str [], .nils, .nils, .nils]]]]] 26 0 0) := List.getElem?_set_self (by simp)
    have hM : MTm ⟨[109, 97, 105, 110], 0, true, 1, [[97], [98]], true, 1, [asS [120] (xNu 1)]⟩ := ⟨nm4_lit (by kernel_rfl), rfl, fun s hs => by rw [List.mem_singleton.1 hs]; exact sm_as (nm4_lit (by kernel_rfl)) mx_nu1, by simp⟩
    obtain ⟨hok2, -⟩ := made_ok (z1 := true) (t1 := 0) (z2 := true) (t2 := 1) (L := [⟨[109, 97, 105, 110], 0, true, 1, [[97], [98]], true, 1, [asS [120] (xNu 1)]⟩]) (fun t ht => by rw [List.mem_singleton.1 ht]; exact hM) (by simp) (by simp)
    refine ⟨.sl s.length 0 0 9 6 true, .lst 1 [[.str [109, 97, 105, 110], .int .i64 0, .lst 1 [[.str [97]], [.str [98]]], .lst 1 [[.int .i64 1, .int .i64 0, .str [120], .str [], .nils, .int .i64 1, .int .i64 1, .str [], .nils, .nils, .nils]]]], true, 0, true, 1, declsL, [⟨[109, 97, 105, 110], 0, true, 1, [[97], [98]], true, 1, [asS [120] (xNu 1)]⟩], resN z5 rfl rfl, ⟨?_, rfl⟩, ⟨?_, rfl⟩, hok2⟩
    · have h3 : (s ++ ([.row (declsL.map Dp.row).flatten 60 0 0] : St))[s.length]? = some (.row (declsL.map Dp.row).flatten 60 0 0) := by simp
      exact oc_sl (xs := declsL.map Dp.row) (by rw [List.getElem?_set_ne (by omega)]; exact h3) (by omega) (drows_len declsL) (drows_set declsL)
    · have hr : SL true 1 ([(⟨[109, 97, 105, 110], 0, true, 1, [[97], [98]], true, 1, [asS [120] (xNu 1)]⟩ : Tp)].map Tp.row) = .lst 1 [[.str [109, 97, 105, 110], .int .i64 0, .lst 1 [[.str [97]], [.str [98]]], .lst 1 [[.int .i64 1, .int .i64 0, .str [120], .str [], .nils, .int .i64 1, .int .i64 1, .str [], .nils, .nils, .nils]]]] := by
        simp only [List.map_cons, List.map_nil, Tp.row, as_row]
        rfl
      rw [hr]
      exact oc_row rfl
end Go.Proofs.YtlehfgdhebapeaaDoor.KM
