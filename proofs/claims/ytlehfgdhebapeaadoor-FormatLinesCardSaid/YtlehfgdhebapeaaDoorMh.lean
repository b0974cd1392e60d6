/- Walks: which statements are shaped. -/
import Derived.Test.YtlehfgdhebapeaaDoorMd
set_option linter.all false
namespace Go.Proofs.YtlehfgdhebapeaaDoor.KM
open Go
set_option maxHeartbeats 2000000 in
theorem shs_step (s : Sp) (hi : ∀ x ∈ s.idx, Fn TT PT 80 [.agg x.row] (.bool (shX x))) (he : Fn TT PT 80 [.agg s.ex.row] (.bool (shX s.ex))) (hel : s.ex.l.length ≤ 1000000000) (hil : s.idx.length ≤ 1000000000) (hbl : s.body.length ≤ 1000000000) (hsl : s.els.length ≤ 1000000000)
    (hb : Fn TT PT 32 [SL s.bz s.bt (s.body.map Sp.row)] (.bool (shSs s.body))) (hs : Fn TT PT 32 [SL s.ez s.et (s.els.map Sp.row)] (.bool (shSs s.els))) : Fn TT PT 55 [.agg s.row] (.bool (shS s)) := by
  obtain ⟨op, line, nm, arg, iz, it, idx, ex, bz, bt, body, ez, et, els⟩ := s
  have hr := srow_def ⟨op, line, nm, arg, iz, it, idx, ex, bz, bt, body, ez, et, els⟩
  have hR := shs_def ⟨op, line, nm, arg, iz, it, idx, ex, bz, bt, body, ez, et, els⟩
  generalize shS ⟨op, line, nm, arg, iz, it, idx, ex, bz, bt, body, ez, et, els⟩ = R at hR ⊢
  have hbk := blank_fn ex hel
  simp only at hr hR hi he hb hs hil hbl hsl hel
  rw [hr]
  clear hr
  have hxr := xrow_def ex
  rw [hxr] at he hbk ⊢
  unfold shSH at hR
  simp only at hR
  generalize ex.op = xo at he hbk ⊢
  generalize ex.n = xn at he hbk ⊢
  generalize ex.nm = xm at he hbk ⊢
  generalize ex.z = xz at he hbk ⊢
  generalize ex.t = xt at he hbk ⊢
  generalize ex.l = xl at he hbk hel ⊢
  clear hxr
  simp only [List.cons_append, List.nil_append]
  obtain ⟨A3, h3⟩ : ∃ b, b = (if namelessE op then nm == [] else isNameE nm) := ⟨_, rfl⟩
  obtain ⟨A4, h4⟩ : ∃ b, b = (if op = 15 then isNameE arg else arg == []) := ⟨_, rfl⟩
  obtain ⟨A5, h5⟩ : ∃ b, b = decide (idx.length ≤ 1) := ⟨_, rfl⟩
  obtain ⟨A6, h6⟩ : ∃ b, b = (op == 1 || idx.isEmpty) := ⟨_, rfl⟩
  obtain ⟨A7, h7⟩ : ∃ b, b = idx.all shX := ⟨_, rfl⟩
  obtain ⟨A8, h8⟩ : ∃ b, b = (if valuedE op then shX ex else blankB ex) := ⟨_, rfl⟩
  obtain ⟨A9, h9⟩ : ∃ b, b = (bodyE op || body.isEmpty) := ⟨_, rfl⟩
  obtain ⟨A10, h10⟩ : ∃ b, b = (op == 2 || els.isEmpty) := ⟨_, rfl⟩
  rw [← h3, ← h4, ← h5, ← h6, ← h7, ← h8, ← h9, ← h10] at hR
  obtain ⟨B1, hB1⟩ : ∃ b, b = shSs body := ⟨_, rfl⟩
  obtain ⟨B2, hB2⟩ : ∃ b, b = shSs els := ⟨_, rfl⟩
  rw [← hB1] at hR hb
  rw [← hB2] at hR hs
  have hlen1 : (idx.map Xp.row).length = idx.length := List.length_map ..
  have hlen2 : (body.map Sp.row).length = body.length := List.length_map ..
  have hlen3 : (els.map Sp.row).length = els.length := List.length_map ..
  have hna := rname_fn nm
  have har := rname_fn arg
  refine Fn_go T55 rfl ?_
  refine w_seg (fun e σ => e = [(1, .ptr 0 0 0)] ∧ σ = [.row [.int .i64 op, .int .i64 line, .str nm, .str arg, SL iz it (idx.map Xp.row), .int .i64 xo, .int .i64 xn, .str xm, SL xz xt (xl.map Xp.row), SL bz bt (body.map Sp.row), SL ez et (els.map Sp.row)] 42 0 0]) (fun k' hk => ?_) ?_
  · simp only [go_sem]
    exact hk _ _ ⟨rfl, rfl⟩
  rintro e σ ⟨rfl, rfl⟩
  refine w_seg (fun e σ => (e = [(1, .ptr 0 0 0)] ∧ σ = [.row [.int .i64 op, .int .i64 line, .str nm, .str arg, SL iz it (idx.map Xp.row), .int .i64 xo, .int .i64 xn, .str xm, SL xz xt (xl.map Xp.row), SL bz bt (body.map Sp.row), SL ez et (els.map Sp.row)] 42 0 0]) ∧ (1 ≤ op ∧ op ≤ 15) ∧ R = ((A3 && (A4 && (A5 && (A6 && (A7 && (A8 && (A9 && (A10)))))))) && (B1 && B2))) (fun k' hk => ?_) ?_
  · by_cases g1 : op < 1
    · rw [decide_eq_false (show ¬ 1 ≤ op by omega)] at hR
      subst hR
      have f1 : (op < 1) = True := eq_true g1
      simp only [go_sem, f1]
      exact fr_eq rfl rfl
    have f1 : (op < 1) = False := eq_false g1
    rw [decide_eq_true (show 1 ≤ op by omega)] at hR
    by_cases g2 : 15 < op
    · rw [decide_eq_false (show ¬ op ≤ 15 by omega)] at hR
      subst hR
      have f2 : ((15 : Int) < op) = True := eq_true g2
      simp only [go_sem, f1, f2, gt_iff_lt]
      exact fr_eq rfl rfl
    have f2 : ((15 : Int) < op) = False := eq_false g2
    rw [decide_eq_true (show op ≤ 15 by omega)] at hR
    simp only [go_sem, f1, f2, gt_iff_lt]
    exact hk _ _ ⟨⟨rfl, rfl⟩, ⟨by omega, by omega⟩, by rw [hR]; rfl⟩
  clear hR
  rintro e σ ⟨⟨rfl, rfl⟩, hop, hR⟩
  refine w_seg (fun e σ => e = [(1, .ptr 0 0 0), (3, .bool (namelessE op))] ∧ σ = [.row [.int .i64 op, .int .i64 line, .str nm, .str arg, SL iz it (idx.map Xp.row), .int .i64 xo, .int .i64 xn, .str xm, SL xz xt (xl.map Xp.row), SL bz bt (body.map Sp.row), SL ez et (els.map Sp.row)] 42 0 0]) (fun k' hk => ?_) ?_
  · unfold namelessE at hk
    cases q2 : (op == 2)
    rotate_left
    · simp only [go_sem, q2]
      exact hk _ _ ⟨by rw [q2]; rfl, rfl⟩
    cases q3 : (op == 3)
    rotate_left
    · simp only [go_sem, q2, q3]
      exact hk _ _ ⟨by rw [q2, q3]; rfl, rfl⟩
    cases q7 : (op == 7)
    rotate_left
    · simp only [go_sem, q2, q3, q7]
      exact hk _ _ ⟨by rw [q2, q3, q7]; rfl, rfl⟩
    cases q8 : (op == 8)
    · simp only [go_sem, q2, q3, q7, q8]
      exact hk _ _ ⟨by rw [q2, q3, q7, q8]; rfl, rfl⟩
    · simp only [go_sem, q2, q3, q7, q8]
      exact hk _ _ ⟨by rw [q2, q3, q7, q8]; rfl, rfl⟩
  rintro e σ ⟨rfl, rfl⟩
  refine w_seg (fun e σ => (e = [(1, .ptr 0 0 0)] ∧ σ = [.row [.int .i64 op, .int .i64 line, .str nm, .str arg, SL iz it (idx.map Xp.row), .int .i64 xo, .int .i64 xn, .str xm, SL xz xt (xl.map Xp.row), SL bz bt (body.map Sp.row), SL ez et (els.map Sp.row)] 42 0 0]) ∧ R = ((A4 && (A5 && (A6 && (A7 && (A8 && (A9 && (A10))))))) && (B1 && B2))) (fun k' hk => ?_) ?_
  · cases hn : namelessE op
    · rw [hn, if_neg (by simp)] at h3
      rw [← h3] at hna
      cases A3
      · subst hR
        simp only [go_sem, Bool.not_false, Bool.not_true]
        refine wx_fn hna rfl ?_
        simp only [go_sem, Bool.not_false, Bool.not_true]
        exact fr_eq rfl rfl
      · simp only [go_sem, Bool.not_false, Bool.not_true]
        refine wx_fn hna rfl ?_
        simp only [go_sem, Bool.not_false, Bool.not_true]
        exact hk _ _ ⟨⟨rfl, rfl⟩, by rw [hR]; rfl⟩
    · rw [hn, if_pos rfl] at h3
      have h3 := h3.symm
      cases A3
      · subst hR
        simp only [go_sem, Bool.not_false, Bool.not_true, h3]
        exact fr_eq rfl rfl
      · simp only [go_sem, Bool.not_false, Bool.not_true, h3]
        exact hk _ _ ⟨⟨rfl, rfl⟩, by rw [hR]; rfl⟩
  clear hR
  rintro e σ ⟨⟨rfl, rfl⟩, hR⟩
  refine w_seg (fun e σ => (e = [(1, .ptr 0 0 0)] ∧ σ = [.row [.int .i64 op, .int .i64 line, .str nm, .str arg, SL iz it (idx.map Xp.row), .int .i64 xo, .int .i64 xn, .str xm, SL xz xt (xl.map Xp.row), SL bz bt (body.map Sp.row), SL ez et (els.map Sp.row)] 42 0 0]) ∧ R = ((A5 && (A6 && (A7 && (A8 && (A9 && (A10)))))) && (B1 && B2))) (fun k' hk => ?_) ?_
  · by_cases h15 : op = 15
    · rw [if_pos h15] at h4
      rw [← h4] at har
      have q15 : (op == 15) = true := by simp [h15]
      cases A4
      · subst hR
        simp only [go_sem, Bool.not_false, Bool.not_true, q15, bne]
        refine wx_fn har rfl ?_
        simp only [go_sem, Bool.not_false, Bool.not_true]
        exact fr_eq rfl rfl
      · simp only [go_sem, Bool.not_false, Bool.not_true, q15, bne]
        refine wx_fn har rfl ?_
        simp only [go_sem, Bool.not_false, Bool.not_true, q15, bne]
        exact hk _ _ ⟨⟨rfl, rfl⟩, by rw [hR]; rfl⟩
    · rw [if_neg h15] at h4
      have h4 := h4.symm
      have q15 : (op == 15) = false := by simp [h15]
      cases A4
      · subst hR
        simp only [go_sem, Bool.not_false, Bool.not_true, h4, q15, bne]
        exact fr_eq rfl rfl
      · simp only [go_sem, Bool.not_false, Bool.not_true, h4, q15, bne]
        exact hk _ _ ⟨⟨rfl, rfl⟩, by rw [hR]; rfl⟩
  clear hR
  rintro e σ ⟨⟨rfl, rfl⟩, hR⟩
  refine w_seg (fun e σ => (e = [(1, .ptr 0 0 0)] ∧ σ = [.row [.int .i64 op, .int .i64 line, .str nm, .str arg, SL iz it (idx.map Xp.row), .int .i64 xo, .int .i64 xn, .str xm, SL xz xt (xl.map Xp.row), SL bz bt (body.map Sp.row), SL ez et (els.map Sp.row)] 42 0 0]) ∧ R = ((A8 && (A9 && (A10))) && (B1 && B2))) (fun k' hk => ?_) ?_
  · have hN : idx.length = 0 ∨ idx.length = 1 ∨ 2 ≤ idx.length := by omega
    rcases hN with h | h | h
    · have hnil : idx = [] := List.length_eq_zero_iff.1 h
      have f1 : ((1 : Int) < (idx.length : Int)) = False := eq_false (by omega)
      have f2 : ((0 : Int) < (idx.length : Int)) = False := eq_false (by omega)
      have f3 : ((idx.length : Int) == 1) = false := by simp [h]
      rw [h5, h6, h7] at hR
      have hR : R = ((A8 && (A9 && A10)) && (B1 && B2)) := by rw [hR, hnil]; cases (op == 1) <;> rfl
      cases q1 : (op == 1)
      · simp only [go_sem, Bool.not_false, Bool.not_true, q1, bne, hlen1, f1, f2, f3, gt_iff_lt]
        exact hk _ _ ⟨⟨rfl, rfl⟩, hR⟩
      · simp only [go_sem, Bool.not_false, Bool.not_true, q1, bne, hlen1, f1, f2, f3, gt_iff_lt]
        exact hk _ _ ⟨⟨rfl, rfl⟩, hR⟩
    · obtain ⟨a, hnil⟩ := List.length_eq_one_iff.1 h
      have f1 : ((1 : Int) < (idx.length : Int)) = False := eq_false (by omega)
      have f2 : ((0 : Int) < (idx.length : Int)) = True := eq_true (by omega)
      have f3 : ((idx.length : Int) == 1) = true := by simp [h]
      have hxr := xrow_def a
      have has := xset a
      have hf := hi a (by rw [hnil]; exact List.mem_singleton.2 rfl)
      have ha' : (idx.map Xp.row)[0]? = some [.int .i64 a.op, .int .i64 a.n, .str a.nm, SL a.z a.t (a.l.map Xp.row)] := by rw [hnil, ← hxr]; rfl
      rw [hxr] at hf has
      have h5 : A5 = true := by rw [h5, hnil]; rfl
      have h7 : A7 = shX a := by rw [h7, hnil, List.all_cons, List.all_nil, Bool.and_true]
      have h6 : A6 = (op == 1) := by rw [h6, hnil]; simp
      rw [h5, h6, h7] at hR
      cases q1 : (op == 1)
      · rw [q1] at hR
        subst hR
        simp only [go_sem, Bool.not_false, Bool.not_true, q1, bne, hlen1, f1, f2, f3, gt_iff_lt]
        exact fr_eq rfl rfl
      rw [q1] at hR
      cases hab : shX a
      · rw [hab] at hR hf
        subst hR
        simp only [go_sem, Bool.not_false, Bool.not_true, q1, bne, hlen1, f1, f2, f3, gt_iff_lt, ha']
        refine wx_fn hf (by simp only [go_sem]) ?_
        simp only [go_sem, Bool.not_false, Bool.not_true]
        exact fr_eq rfl rfl
      · rw [hab] at hR hf
        simp only [go_sem, Bool.not_false, Bool.not_true, q1, bne, hlen1, f1, f2, f3, gt_iff_lt, ha']
        refine wx_fn hf (by simp only [go_sem]) ?_
        simp only [go_sem, Bool.not_false, Bool.not_true]
        exact hk _ _ ⟨⟨rfl, rfl⟩, hR⟩
    · have f1 : ((1 : Int) < (idx.length : Int)) = True := eq_true (by omega)
      rw [show A5 = false from by rw [h5]; exact decide_eq_false (by omega)] at hR
      subst hR
      simp only [go_sem, Bool.not_false, Bool.not_true, hlen1, f1, gt_iff_lt]
      exact fr_eq rfl rfl
  clear hR
  rintro e σ ⟨⟨rfl, rfl⟩, hR⟩
  refine w_seg (fun e σ => e = [(1, .ptr 0 0 0), (4, .bool (valuedE op))] ∧ σ = [.row [.int .i64 op, .int .i64 line, .str nm, .str arg, SL iz it (idx.map Xp.row), .int .i64 xo, .int .i64 xn, .str xm, SL xz xt (xl.map Xp.row), SL bz bt (body.map Sp.row), SL ez et (els.map Sp.row)] 42 0 0]) (fun k' hk => ?_) ?_
  · unfold valuedE at hk
    cases q1 : (op == 1)
    rotate_left
    · simp only [go_sem, q1]
      exact hk _ _ ⟨by rw [q1]; rfl, rfl⟩
    cases q2 : (op == 2)
    rotate_left
    · simp only [go_sem, q1, q2]
      exact hk _ _ ⟨by rw [q1, q2]; rfl, rfl⟩
    cases q3 : (op == 3)
    rotate_left
    · simp only [go_sem, q1, q2, q3]
      exact hk _ _ ⟨by rw [q1, q2, q3]; rfl, rfl⟩
    cases q14 : (op == 14)
    · simp only [go_sem, q1, q2, q3, q14]
      exact hk _ _ ⟨by rw [q1, q2, q3, q14]; rfl, rfl⟩
    · simp only [go_sem, q1, q2, q3, q14]
      exact hk _ _ ⟨by rw [q1, q2, q3, q14]; rfl, rfl⟩
  rintro e σ ⟨rfl, rfl⟩
  refine w_seg (fun e σ => (e = [(1, .ptr 0 0 0)] ∧ σ = [.row [.int .i64 op, .int .i64 line, .str nm, .str arg, SL iz it (idx.map Xp.row), .int .i64 xo, .int .i64 xn, .str xm, SL xz xt (xl.map Xp.row), SL bz bt (body.map Sp.row), SL ez et (els.map Sp.row)] 42 0 0]) ∧ R = ((A9 && (A10)) && (B1 && B2))) (fun k' hk => ?_) ?_
  · cases hn : valuedE op
    · rw [hn, if_neg (by simp)] at h8
      rw [← h8] at hbk
      cases A8
      · subst hR
        simp only [go_sem, Bool.not_false, Bool.not_true]
        refine wx_fn hbk (by simp only [go_sem]) ?_
        simp only [go_sem, Bool.not_false, Bool.not_true]
        exact fr_eq rfl rfl
      · simp only [go_sem, Bool.not_false, Bool.not_true]
        refine wx_fn hbk (by simp only [go_sem]) ?_
        simp only [go_sem, Bool.not_false, Bool.not_true]
        exact hk _ _ ⟨⟨rfl, rfl⟩, by rw [hR]; rfl⟩
    · rw [hn, if_pos rfl] at h8
      rw [← h8] at he
      cases A8
      · subst hR
        simp only [go_sem, Bool.not_false, Bool.not_true]
        refine wx_fn he (by simp only [go_sem]) ?_
        simp only [go_sem, Bool.not_false, Bool.not_true]
        exact fr_eq rfl rfl
      · simp only [go_sem, Bool.not_false, Bool.not_true]
        refine wx_fn he (by simp only [go_sem]) ?_
        simp only [go_sem, Bool.not_false, Bool.not_true]
        exact hk _ _ ⟨⟨rfl, rfl⟩, by rw [hR]; rfl⟩
  clear hR
  rintro e σ ⟨⟨rfl, rfl⟩, hR⟩
  refine w_seg (fun e σ => e = [(1, .ptr 0 0 0), (5, .bool (bodyE op))] ∧ σ = [.row [.int .i64 op, .int .i64 line, .str nm, .str arg, SL iz it (idx.map Xp.row), .int .i64 xo, .int .i64 xn, .str xm, SL xz xt (xl.map Xp.row), SL bz bt (body.map Sp.row), SL ez et (els.map Sp.row)] 42 0 0]) (fun k' hk => ?_) ?_
  · unfold bodyE at hk
    by_cases g1 : 2 ≤ op
    · have f1 : ((2 : Int) ≤ op) = True := eq_true g1
      rw [decide_eq_true g1] at hk
      by_cases g2 : op ≤ 8
      · have f2 : (op ≤ 8) = True := eq_true g2
        rw [decide_eq_true g2] at hk
        simp only [go_sem, f1, f2, ge_iff_le]
        exact hk _ _ ⟨rfl, rfl⟩
      · have f2 : (op ≤ 8) = False := eq_false g2
        rw [decide_eq_false g2] at hk
        simp only [go_sem, f1, f2, ge_iff_le]
        exact hk _ _ ⟨rfl, rfl⟩
    · have f1 : ((2 : Int) ≤ op) = False := eq_false g1
      rw [decide_eq_false g1] at hk
      simp only [go_sem, f1, ge_iff_le]
      exact hk _ _ ⟨rfl, rfl⟩
  rintro e σ ⟨rfl, rfl⟩
  refine w_seg (fun e σ => (e = [(1, .ptr 0 0 0)] ∧ σ = [.row [.int .i64 op, .int .i64 line, .str nm, .str arg, SL iz it (idx.map Xp.row), .int .i64 xo, .int .i64 xn, .str xm, SL xz xt (xl.map Xp.row), SL bz bt (body.map Sp.row), SL ez et (els.map Sp.row)] 42 0 0]) ∧ R = (B1 && B2)) (fun k' hk => ?_) ?_
  · have e1 : ((0 : Int) < (body.length : Int)) = (body.isEmpty = false) := by
      cases body with
      | nil => simp
      | cons x r => simp
    have e2 : ((0 : Int) < (els.length : Int)) = (els.isEmpty = false) := by
      cases els with
      | nil => simp
      | cons x r => simp
    rw [h9, h10] at hR
    cases hn : bodyE op <;> cases hbe : body.isEmpty
    · rw [hn, hbe] at hR
      subst hR
      simp only [go_sem, Bool.not_false, Bool.not_true, hlen2, e1, hbe, gt_iff_lt, decide_true]
      exact fr_eq rfl rfl
    all_goals
      rw [hn, hbe] at hR
      cases q2 : (op == 2) <;> cases hee : els.isEmpty
      · rw [q2, hee] at hR
        subst hR
        simp only [go_sem, Bool.not_false, Bool.not_true, hlen2, hlen3, e1, e2, hbe, hee, q2, bne, gt_iff_lt, decide_true]
        exact fr_eq rfl rfl
      all_goals
        rw [q2, hee] at hR
        simp only [go_sem, Bool.not_false, Bool.not_true, hlen2, hlen3, e1, e2, hbe, hee, q2, bne, gt_iff_lt, decide_true]
        exact hk _ _ ⟨⟨rfl, rfl⟩, by rw [hR]; rfl⟩
  clear hR
  rintro e σ ⟨⟨rfl, rfl⟩, hR⟩
  cases B1
  · subst hR
    simp only [go_sem]
    refine wx_fn hb (by simp only [go_sem]) ?_
    simp only [go_sem]
    exact fr_eq rfl rfl
  · cases B2
    · subst hR
      simp only [go_sem]
      refine wx_fn hb (by simp only [go_sem]) ?_
      simp only [go_sem]
      refine wx_fn hs (by simp only [go_sem]) ?_
      simp only [go_sem]
      exact fr_eq rfl rfl
    · subst hR
      simp only [go_sem]
      refine wx_fn hb (by simp only [go_sem]) ?_
      simp only [go_sem]
      refine wx_fn hs (by simp only [go_sem]) ?_
      simp only [go_sem]
      exact fr_eq rfl rfl
end Go.Proofs.YtlehfgdhebapeaaDoor.KM
