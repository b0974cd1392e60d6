/- Walks: the program's texts of expressions, written into a Builder. -/
import Derived.Test.YtlehfgdhebapeaaDoorGb
import Derived.Test.YtlehfgdhebapeaaDoorYu
set_option linter.all false
namespace Go.Proofs.YtlehfgdhebapeaaDoor.KM
open Go
/-- what a writer does: the Builder at b holds l; objects of other types lie as they lay -/
def WB (s0 s : St) (b : Nat) (l : List UInt8) : Prop := (∃ u, BL s b u l) ∧ Cl s ∧ s0.length ≤ s.length ∧ ∀ (j : Nat) (cs : List V) (e g z : Nat), j ≠ b → e ≠ 5 → s0[j]? = some (.row cs e g z) → s[j]? = some (.row cs e g z)
theorem wb_start {s : St} {b : Nat} {u : V} {l : List UInt8} (h : BL s b u l) (hc : Cl s) : WB s s b l := ⟨⟨u, h⟩, hc, Nat.le_refl _, fun _ _ _ _ _ _ _ h => h⟩
theorem wb_trans {s0 s1 s2 : St} {b : Nat} {l l' : List UInt8} (h1 : WB s0 s1 b l) (h2 : WB s1 s2 b l') : WB s0 s2 b l' :=
  ⟨h2.1, h2.2.1, Nat.le_trans h1.2.2.1 h2.2.2.1, fun j cs e g z hj he h => h2.2.2.2 j cs e g z hj he (h1.2.2.2 j cs e g z hj he h)⟩
theorem wb_push {s0 s : St} {b : Nat} {l : List UInt8} {cs : List V} {t : Nat} (h : WB s0 s b l) (hr : cs.all V.rowB = true) : WB s0 (s ++ [.row cs t 0 0]) b l := by
  obtain ⟨⟨u, h1⟩, h2, h3, h4⟩ := h
  refine ⟨⟨u, bl_push h1⟩, cl_row h2 hr, by simp; omega, fun j cs e g z hj he h => get_app_some (h4 j cs e g z hj he h)⟩
theorem wb_self {s0 s : St} {b : Nat} {l : List UInt8} (h : WB s0 s b l) : WB s s b l := ⟨h.1, h.2.1, Nat.le_refl _, fun _ _ _ _ _ _ _ h => h⟩
theorem wb_write {s0 s : St} {b : Nat} {l : List UInt8} (h : WB s0 s b l) (t : List UInt8) (hb : l.length + t.length ≤ 100000000000000) : ∃ s', Th TT PT 23 [.ptr b 0 0, .str t] s (.tup [.int .i64 (t.length : Int), .nili]) s' ∧ WB s0 s' b (l ++ t) ∧ WB s s' b (l ++ t) := by
  obtain ⟨⟨u, h1⟩, h2, h3, h4⟩ := h
  obtain ⟨s', u', q1, q2, q3, q4, q5⟩ := write_th t h1 h2 hb
  have hw : WB s s' b (l ++ t) := by
    refine ⟨⟨u', q2⟩, q3, q4, fun j cs e g z hj he hs => ?_⟩
    rw [q5 j hj ?_ (List.getElem?_eq_some_iff.1 hs).1]
    · exact hs
    · intro hm
      obtain ⟨p, -, -, hg⟩ := h1
      rcases hg with ⟨rfl, -⟩ | ⟨-, i, g', rfl, ho, -⟩
      · simp [V.refs] at hm
      · simp [V.refs] at hm
        subst hm
        rw [ho] at hs
        simp at hs
        exact he hs.2.1.symm
  exact ⟨s', q1, wb_trans ⟨⟨u, h1⟩, h2, h3, h4⟩ hw, hw⟩
theorem th_ex {T : Nat → Option AF} {pr : Nat → Option (List V → Option V)} {f p : Nat} {res : List AR} {body : AC} {vs : List V} {v : V} {σ : St} {R : St → Prop} (hT : T f = some ⟨p, res, true, body, none⟩) (hl : vs.length = p)
    (h : W T pr [.c body] (parEnv 0 vs) σ (Hd fun e' σ1 => resV e' σ1 res = some v ∧ R σ1)) (hr : v.refs = []) (ho : okRes v = true) (hR : ∀ σ1, R σ1 → σ.length ≤ σ1.length ∧ Cl σ1) : ∃ σ', Th T pr f vs σ v σ' ∧ R σ' := by
  obtain ⟨e', σ1, hE, hres, h1⟩ := h
  obtain ⟨h2, h3⟩ := hR σ1 h1
  exact ⟨σ1, Th_all hT hl ⟨e', σ1, hE, hres, rfl⟩ hr ho h2 h3, h1⟩
theorem operand_fn {x a : Xp} {i : Nat} (h : x.l[i]? = some a) (hi : i < 2) : Fn TT PT 66 [.agg x.row, .int .i64 (i : Int)] (.agg a.row) := by
  have hil := (List.getElem?_eq_some_iff.1 h).1
  rw [xrow_def x]
  have hset := xset a
  have hn : (x.l.map Xp.row).length = x.l.length := List.length_map ..
  have g1 : ((x.l.length : Int) ≤ (i : Int)) = False := eq_false (by omega)
  refine Fn_go T66 rfl ?_
  rw [xrow_def a] at hset ⊢
  have hrow : a.row = [.int .i64 a.op, .int .i64 a.n, .str a.nm, SL a.z a.t (a.l.map Xp.row)] := xrow_def a
  simp only [go_sem, hn, g1, List.getElem?_map, h, hrow]
  exact fr_set hset
theorem wop_th {x : Xp} (ho : 1 ≤ x.op ∧ x.op ≤ 18) {s0 s : St} {b : Nat} {l : List UInt8} (hx : ∀ (s : St) (l : List UInt8), WB s s b l → l.length + x.txt.length ≤ 10000000000000 → ∃ s', Th TT PT 40 [.ptr b 0 0, .agg x.row] s (.tup []) s' ∧ WB s s' b (l ++ x.txt)) (level : Int) (h : WB s0 s b l) (hl : l.length + (putE (x.op, x.txt) level).length ≤ 10000000000000) :
    ∃ s', Th TT PT 65 [.ptr b 0 0, .agg x.row, .int .i64 level] s (.tup []) s' ∧ WB s s' b (l ++ putE (x.op, x.txt) level) := by
  have hop := op_fn ho
  have hset := xset x
  have hself := wb_self h
  refine th_ex T65 rfl ?_ rfl rfl (fun σ1 h => ⟨h.2.2.1, h.2.1⟩)
  rw [xrow_def] at hx hset ⊢
  have hrow : ([V.int .i64 x.op, .int .i64 x.n, .str x.nm, SL x.z x.t (x.l.map Xp.row)]).all V.rowB = true := hset
  obtain ⟨s1, e1⟩ : ∃ s1, s1 = s ++ [Ob.row [.int .i64 x.op, .int .i64 x.n, .str x.nm, SL x.z x.t (x.l.map Xp.row)] 40 0 0] := ⟨_, rfl⟩
  have w1 : WB s s1 b l := by rw [e1]; exact wb_push hself hrow
  have k1 : s1[s.length]? = some (.row [.int .i64 x.op, .int .i64 x.n, .str x.nm, SL x.z x.t (x.l.map Xp.row)] 40 0 0) := by rw [e1, List.getElem?_append_right (Nat.le_refl _), Nat.sub_self]; rfl
  have hbn : s.length ≠ b := by
    obtain ⟨⟨u, p, hb, -⟩, -⟩ := h
    have := (List.getElem?_eq_some_iff.1 hb).1
    omega
  unfold putE at hl ⊢
  by_cases hlt : lvE x.op < level
  · have f : (level ≤ lvE x.op) = False := eq_false (by omega)
    rw [if_pos hlt] at hl ⊢
    simp only [List.length_cons, List.length_append, List.length_nil] at hl
    obtain ⟨s2, q2, w2, v2⟩ := wb_write w1 [40] (by simp; omega)
    obtain ⟨s3, q3, v3⟩ := hx s2 (l ++ [40]) (wb_self w2) (by simp; omega)
    obtain ⟨s4, q4, w4, v4⟩ := wb_write (wb_trans w2 v3) [41] (by simp; omega)
    have k2 := v2.2.2.2 s.length _ _ _ _ hbn (by decide) k1
    simp only [go_sem]
    refine wx_fn hop (by simp only [go_sem]) ?_
    simp only [go_sem, f]
    rw [e1] at q2
    refine wx_th q2 ?_
    simp only [go_sem, k2]
    refine wx_th q3 ?_
    simp only [go_sem]
    refine wx_th q4 ?_
    simp only [go_sem]
    exact ⟨rfl, by have := w4; simpa using this⟩
  · have f : (level ≤ lvE x.op) = True := eq_true (by omega)
    rw [if_neg hlt] at hl ⊢
    obtain ⟨s3, q3, v3⟩ := hx s1 l (wb_self w1) (by simp only at hl; omega)
    rw [e1] at q3
    simp only [go_sem]
    refine wx_fn hop (by simp only [go_sem]) ?_
    simp only [go_sem, f]
    refine wx_th q3 ?_
    simp only [go_sem]
    exact ⟨rfl, wb_trans w1 v3⟩
/-- the program's writer of expressions -/
theorem wexpr_th {x : Xp} (h : Cn x) : ∀ (s : St) (b : Nat) (l : List UInt8), WB s s b l → l.length + x.txt.length ≤ 10000000000000 → ∃ s', Th TT PT 40 [.ptr b 0 0, .agg x.row] s (.tup []) s' ∧ WB s s' b (l ++ x.txt) := by
  induction h with
  | @num n nm z t hn =>
    intro s b l h hl
    rw [xtxt_def] at hl ⊢
    simp only [List.map_nil, combE, if_true] at hl ⊢
    have hbn : s.length ≠ b := by
      obtain ⟨⟨u, p, hb, -⟩, -⟩ := h
      have := (List.getElem?_eq_some_iff.1 hb).1
      omega
    have hop := op_fn (op := 1) (by omega)
    have hf : fmtS [.int .i64 n, .int .i64 10] = some (.str (itoaE n)) := by unfold fmtS; exact if_pos hn
    refine th_ex T40 rfl ?_ rfl rfl (fun σ1 h => ⟨h.2.2.1, h.2.1⟩)
    rw [xrow_def]
    obtain ⟨s1, e1⟩ : ∃ s1, s1 = s ++ [Ob.row [.int .i64 1, .int .i64 n, .str nm, SL z t []] 40 0 0, Ob.row [.str (sgE 1), .int .i64 (lvE 1)] 117 0 0] := ⟨_, rfl⟩
    have w1 : WB s s1 b l := by
      have := wb_push (wb_push h (t := 40) (cs := [.int .i64 1, .int .i64 n, .str nm, SL z t []]) (by simp only [go_sem])) (t := 117) (cs := [.str (sgE 1), .int .i64 (lvE 1)]) rfl
      rw [e1]
      simpa using this
    obtain ⟨s2, q2, w2, v2⟩ := wb_write w1 (itoaE n) (by omega)
    rw [e1] at q2
    simp only [List.map_nil]
    simp only [go_sem]
    refine wx_fn hop (by simp only [go_sem]) ?_
    simp only [go_sem, Int.reduceBEq]
    refine wx_pr P51 (by simp only [go_sem]) hf ?_
    simp only [go_sem]
    refine wx_th q2 ?_
    simp only [go_sem]
    exact ⟨rfl, w2⟩
  | @name n nm z t =>
    intro s b l h hl
    rw [xtxt_def] at hl ⊢
    simp only [List.map_nil, combE, show ((2 : Int) = 1) = False from eq_false (by omega), if_false, if_true] at hl ⊢
    have hbn : s.length ≠ b := by
      obtain ⟨⟨u, p, hb, -⟩, -⟩ := h
      have := (List.getElem?_eq_some_iff.1 hb).1
      omega
    have hop := op_fn (op := 2) (by omega)
    refine th_ex T40 rfl ?_ rfl rfl (fun σ1 h => ⟨h.2.2.1, h.2.1⟩)
    rw [xrow_def]
    obtain ⟨s1, e1⟩ : ∃ s1, s1 = s ++ [Ob.row [.int .i64 2, .int .i64 n, .str nm, SL z t []] 40 0 0, Ob.row [.str (sgE 2), .int .i64 (lvE 2)] 117 0 0] := ⟨_, rfl⟩
    have w1 : WB s s1 b l := by
      have := wb_push (wb_push h (t := 40) (cs := [.int .i64 2, .int .i64 n, .str nm, SL z t []]) (by simp only [go_sem])) (t := 117) (cs := [.str (sgE 2), .int .i64 (lvE 2)]) rfl
      rw [e1]
      simpa using this
    obtain ⟨s2, q2, w2, v2⟩ := wb_write w1 nm (by omega)
    rw [e1] at q2
    simp only [List.map_nil]
    have lv : (lvE 2 == 7) = true := by decide
    simp only [go_sem]
    refine wx_fn hop (by simp only [go_sem]) ?_
    simp only [go_sem, Int.reduceBEq, lv]
    refine wx_th q2 ?_
    simp only [go_sem]
    exact ⟨rfl, w2⟩
  | @idx n nm z t a ha ih =>
    intro s b l h hl
    rw [xtxt_def] at hl ⊢
    simp only [List.map_cons, List.map_nil, combE, show ((3 : Int) = 1) = False from eq_false (by omega), show ((3 : Int) = 2) = False from eq_false (by omega), if_false, if_true] at hl ⊢
    have hl : l.length + nm.length + a.txt.length + 2 ≤ 10000000000000 := by simp at hl; omega
    have hbn : s.length ≠ b := by
      obtain ⟨⟨u, p, hb, -⟩, -⟩ := h
      have := (List.getElem?_eq_some_iff.1 hb).1
      omega
    have hop := op_fn (op := 3) (by omega)
    have hopd := operand_fn (x := ⟨3, n, nm, z, t, [a]⟩) (a := a) (i := 0) rfl (by omega)
    refine th_ex T40 rfl ?_ rfl rfl (fun σ1 h => ⟨h.2.2.1, h.2.1⟩)
    rw [xrow_def] at hopd ⊢
    simp only [List.map_cons, List.map_nil] at hopd ⊢
    obtain ⟨s1, e1⟩ : ∃ s1, s1 = s ++ [Ob.row [.int .i64 3, .int .i64 n, .str nm, SL z t [a.row]] 40 0 0, Ob.row [.str (sgE 3), .int .i64 (lvE 3)] 117 0 0] := ⟨_, rfl⟩
    have w1 : WB s s1 b l := by
      have := wb_push (wb_push h (t := 40) (cs := [.int .i64 3, .int .i64 n, .str nm, SL z t [a.row]]) (by simp only [go_sem])) (t := 117) (cs := [.str (sgE 3), .int .i64 (lvE 3)]) rfl
      rw [e1]
      simpa using this
    have k1 : s1[s.length]? = some (.row [.int .i64 3, .int .i64 n, .str nm, SL z t [a.row]] 40 0 0) := by rw [e1, List.getElem?_append_right (Nat.le_refl _), Nat.sub_self]; rfl
    obtain ⟨s2, q2, w2, v2⟩ := wb_write w1 nm (by omega)
    obtain ⟨s3, q3, w3, v3⟩ := wb_write w2 [91] (by simp; omega)
    have k3 := (wb_trans v2 v3).2.2.2 s.length _ _ _ _ hbn (by decide) k1
    have hle : putE (a.op, a.txt) 1 = a.txt := by
      unfold putE
      have := (sg_len (cn_op ha)).2.1
      exact if_neg (by simp only; omega)
    obtain ⟨s4, q4, v4⟩ := wop_th (cn_op ha) (fun s l h hl => ih s b l h hl) 1 w3 (by rw [hle]; simp; omega)
    rw [hle] at v4
    obtain ⟨s5, q5, w5, v5⟩ := wb_write (wb_trans w3 v4) [93] (by simp; omega)
    rw [e1] at q2
    have haset := xset a
    simp only [go_sem]
    refine wx_fn hop (by simp only [go_sem]) ?_
    simp only [go_sem, Int.reduceBEq]
    refine wx_th q2 ?_
    simp only [go_sem]
    refine wx_th q3 ?_
    simp only [go_sem, k3]
    refine wx_fn hopd (by simp only [go_sem]) ?_
    simp only [go_sem]
    refine wx_th q4 ?_
    simp only [go_sem]
    refine wx_th q5 ?_
    simp only [go_sem]
    exact ⟨rfl, by have := w5; simpa using this⟩
  | @un op n nm z t a hop' ha ih =>
    intro s b l h hl
    have ho : 1 ≤ op ∧ op ≤ 18 := by omega
    have hlv : lvE op = 6 := by rcases hop' with rfl | rfl <;> rfl
    rw [xtxt_def] at hl ⊢
    have e0 : combE op n nm [(a.op, a.txt)] = sgE op ++ putE (a.op, a.txt) 6 := by
      unfold combE
      rw [if_neg (by omega), if_neg (by omega)]
      simp only
      rw [if_neg (by omega)]
    simp only [List.map_cons, List.map_nil, e0, List.length_append] at hl ⊢
    obtain ⟨p1, p2⟩ := put_len (a.op, a.txt) 6
    simp only at p1
    have hbn : s.length ≠ b := by
      obtain ⟨⟨u, p, hb, -⟩, -⟩ := h
      have := (List.getElem?_eq_some_iff.1 hb).1
      omega
    have hop := op_fn ho
    rw [hlv] at hop
    have hopd := operand_fn (x := ⟨op, n, nm, z, t, [a]⟩) (a := a) (i := 0) rfl (by omega)
    refine th_ex T40 rfl ?_ rfl rfl (fun σ1 h => ⟨h.2.2.1, h.2.1⟩)
    rw [xrow_def] at hopd ⊢
    simp only [List.map_cons, List.map_nil] at hopd ⊢
    obtain ⟨s1, e1⟩ : ∃ s1, s1 = s ++ [Ob.row [.int .i64 op, .int .i64 n, .str nm, SL z t [a.row]] 40 0 0, Ob.row [.str (sgE op), .int .i64 6] 117 0 0] := ⟨_, rfl⟩
    have w1 : WB s s1 b l := by
      have := wb_push (wb_push h (t := 40) (cs := [.int .i64 op, .int .i64 n, .str nm, SL z t [a.row]]) (by simp only [go_sem])) (t := 117) (cs := [.str (sgE op), .int .i64 6]) rfl
      rw [e1]
      simpa using this
    have k1 : s1[s.length]? = some (.row [.int .i64 op, .int .i64 n, .str nm, SL z t [a.row]] 40 0 0) := by rw [e1, List.getElem?_append_right (Nat.le_refl _), Nat.sub_self]; rfl
    obtain ⟨s2, q2, w2, v2⟩ := wb_write w1 (sgE op) (by omega)
    have k2 := v2.2.2.2 s.length _ _ _ _ hbn (by decide) k1
    obtain ⟨s3, q3, v3⟩ := wop_th (cn_op ha) (fun s l h hl => ih s b l h hl) 6 w2 (by simp; omega)
    rw [e1] at q2
    have b1 : (op == 1) = false := by simp; omega
    have b3 : (op == 3) = false := by simp; omega
    simp only [go_sem]
    refine wx_fn hop (by simp only [go_sem]) ?_
    simp only [go_sem, Int.reduceBEq, b1, b3]
    refine wx_th q2 ?_
    simp only [go_sem, k2]
    refine wx_fn hopd (by simp only [go_sem]) ?_
    simp only [go_sem]
    refine wx_th q3 ?_
    simp only [go_sem]
    exact ⟨rfl, by have := wb_trans w2 v3; simpa using this⟩
  | @bin op n nm z t a c hop' ha hc iha ihc =>
    intro s b l h hl
    have ho : 1 ≤ op ∧ op ≤ 18 := by omega
    obtain ⟨s1', s2', s3'⟩ := sg_len ho
    have hlv : lvE op < 6 := by
      obtain ⟨i, hi, rfl⟩ := op_nat ho
      have : ((List.range 18).all fun i => decide (5 ≤ i → lvE ((i : Int) + 1) < 6)) = true := by decide
      exact of_decide_eq_true (List.all_eq_true.1 this i (List.mem_range.2 hi)) (by omega)
    rw [xtxt_def] at hl ⊢
    have e0 : combE op n nm [(a.op, a.txt), (c.op, c.txt)] = putE (a.op, a.txt) (leftE op) ++ 32 :: (sgE op ++ 32 :: putE (c.op, c.txt) (lvE op + 1)) := by
      unfold combE
      rw [if_neg (by omega), if_neg (by omega)]
    simp only [List.map_cons, List.map_nil, e0, List.length_append, List.length_cons] at hl ⊢
    have hbn : s.length ≠ b ∧ s.length + 1 ≠ b := by
      obtain ⟨⟨u, p, hb, -⟩, -⟩ := h
      have := (List.getElem?_eq_some_iff.1 hb).1
      omega
    have hop := op_fn ho
    have hopa := operand_fn (x := ⟨op, n, nm, z, t, [a, c]⟩) (a := a) (i := 0) rfl (by omega)
    have hopc := operand_fn (x := ⟨op, n, nm, z, t, [a, c]⟩) (a := c) (i := 1) rfl (by omega)
    refine th_ex T40 rfl ?_ rfl rfl (fun σ1 h => ⟨h.2.2.1, h.2.1⟩)
    rw [xrow_def] at hopa hopc ⊢
    simp only [List.map_cons, List.map_nil] at hopa hopc ⊢
    obtain ⟨s1, e1⟩ : ∃ s1, s1 = s ++ [Ob.row [.int .i64 op, .int .i64 n, .str nm, SL z t [a.row, c.row]] 40 0 0, Ob.row [.str (sgE op), .int .i64 (lvE op)] 117 0 0] := ⟨_, rfl⟩
    have w1 : WB s s1 b l := by
      have := wb_push (wb_push h (t := 40) (cs := [.int .i64 op, .int .i64 n, .str nm, SL z t [a.row, c.row]]) (by simp only [go_sem])) (t := 117) (cs := [.str (sgE op), .int .i64 (lvE op)]) rfl
      rw [e1]
      simpa using this
    have k1 : s1[s.length]? = some (.row [.int .i64 op, .int .i64 n, .str nm, SL z t [a.row, c.row]] 40 0 0) := by rw [e1, List.getElem?_append_right (Nat.le_refl _), Nat.sub_self]; rfl
    have m1 : s1[s.length + 1]? = some (.row [.str (sgE op), .int .i64 (lvE op)] 117 0 0) := by rw [e1, List.getElem?_append_right (by omega), Nat.add_sub_cancel_left]; rfl
    have hle : leftE op = (if (lvE op == 3) = true then 4 else lvE op) := by unfold leftE; simp
    obtain ⟨s2, q2, v2⟩ := wop_th (cn_op ha) (fun s l h hl => iha s b l h hl) (leftE op) w1 (by omega)
    have k2 := v2.2.2.2 s.length _ _ _ _ hbn.1 (by decide) k1
    have m2 := v2.2.2.2 (s.length + 1) _ _ _ _ hbn.2 (by decide) m1
    obtain ⟨s3, q3, w3, v3⟩ := wb_write v2 [32] (by simp; omega)
    have k3 := v3.2.2.2 s.length _ _ _ _ hbn.1 (by decide) k2
    have m3 := v3.2.2.2 (s.length + 1) _ _ _ _ hbn.2 (by decide) m2
    obtain ⟨s4, q4, w4, v4⟩ := wb_write v3 (sgE op) (by simp; omega)
    have k4 := v4.2.2.2 s.length _ _ _ _ hbn.1 (by decide) k3
    have m4 := v4.2.2.2 (s.length + 1) _ _ _ _ hbn.2 (by decide) m3
    obtain ⟨s5, q5, w5, v5⟩ := wb_write v4 [32] (by simp; omega)
    have k5 := v5.2.2.2 s.length _ _ _ _ hbn.1 (by decide) k4
    have m5 := v5.2.2.2 (s.length + 1) _ _ _ _ hbn.2 (by decide) m4
    obtain ⟨s6, q6, v6⟩ := wop_th (cn_op hc) (fun s l h hl => ihc s b l h hl) (lvE op + 1) v5 (by simp; omega)
    rw [e1] at q2
    have b1 : (op == 1) = false := by simp; omega
    have b3 : (op == 3) = false := by simp; omega
    have b7 : (lvE op == 7) = false := by simp; omega
    have b6 : (lvE op == 6) = false := by simp; omega
    have wi : IntKind.i64.wrap (lvE op + 1) = lvE op + 1 := wrap64 (by omega)
    have fin : WB s s6 b (l ++ (putE (a.op, a.txt) (leftE op) ++ 32 :: (sgE op ++ 32 :: putE (c.op, c.txt) (lvE op + 1)))) := by
      have := wb_trans w1 (wb_trans v2 (wb_trans v3 (wb_trans v4 (wb_trans v5 v6))))
      simpa using this
    cases h3 : (lvE op == 3)
    all_goals
      rw [h3] at hle
      simp only [if_true, if_false, Bool.false_eq_true] at hle
      rw [hle] at q2
      simp only [go_sem]
      refine wx_fn hop (by simp only [go_sem]) ?_
      simp only [go_sem, Int.reduceBEq, b1, b3, b7, b6, h3]
      refine wx_fn hopa (by simp only [go_sem]) ?_
      simp only [go_sem]
      refine wx_th q2 ?_
      simp only [go_sem]
      refine wx_th q3 ?_
      simp only [go_sem, m3]
      refine wx_th q4 ?_
      simp only [go_sem]
      refine wx_th q5 ?_
      simp only [go_sem]
      refine w_drw (by kernel_rfl) ?_
      simp only [go_sem, k5]
      refine wgx_fn hopc (by simp only [go_sem]) ?_
      simp only [go_sem, m5, wi]
      refine wgx_th q6 (by repeat (first | exact trivial | refine ⟨.inl (by rfl), ?_⟩ | refine ⟨by rfl, ?_⟩ | refine ⟨.inr ⟨by rfl, by rfl⟩, ?_⟩)) (by repeat (first | exact trivial | refine ⟨.inl (by rfl), ?_⟩ | refine ⟨by rfl, ?_⟩ | refine ⟨.inr ⟨by rfl, by rfl⟩, ?_⟩)) ?_
      simp only [go_sem]
      exact ⟨rfl, fin⟩
end Go.Proofs.YtlehfgdhebapeaaDoor.KM
