/- Walks: the program's texts of statements. -/
import Derived.Test.YtlehfgdhebapeaaDoorGf
set_option linter.all false
namespace Go.Proofs.YtlehfgdhebapeaaDoor.KM
open Go
mutual
def Sp.sz : Sp → Nat
  | ⟨_, _, _, _, _, _, _, _, _, _, body, _, _, els⟩ => 1 + Sp.szs body + Sp.szs els
def Sp.szs : List Sp → Nat
  | [] => 0
  | x :: l => x.sz + Sp.szs l
end
theorem ssz_eq (s : Sp) : s.sz = 1 + Sp.szs s.body + Sp.szs s.els := by
  obtain ⟨op, line, nm, arg, iz, it, idx, ex, bz, bt, body, ez, et, els⟩ := s
  rw [Sp.sz]
theorem ssz_mem : ∀ {l : List Sp} {x : Sp}, x ∈ l → x.sz ≤ Sp.szs l
  | y :: l, x, h => by
    rw [Sp.szs]
    rcases List.mem_cons.1 h with rfl | h
    · omega
    · have := ssz_mem h; omega
theorem rep_ind (d : Nat) (h : d ≤ 1073741823) : repS [.str [32, 32], .int .i64 (d : Int)] = some (.str (indE d)) := by
  unfold repS
  simp only
  rw [if_pos (by simp; omega)]
  congr 2
  unfold indE
  rw [Int.toNat_natCast]
  clear h
  induction d with
  | zero => rfl
  | succ d ih =>
    rw [Lib.repeatL, ih, show 2 * (d + 1) = 2 + 2 * d by omega, ← List.replicate_append_replicate]
    rfl
theorem srow11 (x : Sp) : x.row = [.int .i64 x.op, .int .i64 x.line, .str x.nm, .str x.arg, SL x.iz x.it (x.idx.map Xp.row), .int .i64 x.ex.op, .int .i64 x.ex.n, .str x.ex.nm, SL x.ex.z x.ex.t (x.ex.l.map Xp.row), SL x.bz x.bt (x.body.map Sp.row), SL x.ez x.et (x.els.map Sp.row)] := by
  rw [srow_def, xrow_def]
  rfl
/-- a statement that is written -/
def Wr (x : Sp) : Prop := ∀ (s : St) (b : Nat) (l : List UInt8) (d : Nat), WB s s b l → l.length + (x.txt d).length ≤ 10000000000000 → d + x.sz ≤ 1073741823 → ∃ s', Th TT PT 26 [.ptr b 0 0, .agg x.row, .int .i64 (d : Int)] s (.tup []) s' ∧ WB s s' b (l ++ x.txt d)
theorem wb_row {s0 s : St} {b : Nat} {l : List UInt8} (h : WB s0 s b l) (x : Sp) : WB s0 (s ++ [.row x.row 42 0 0]) b l := wb_push h (by
  have := sset x
  exact this)
theorem wbody0_w {K : List It} {Q : Env → St → Prop} {A6 : V} {j4 b d : Nat} {z : Bool} {t : Nat} {L : List Sp} {s0 s : St} {l : List UInt8} (hW : ∀ x ∈ L, Wr x) (h : WB s0 s b l) (hl : l.length + (Sp.txts (d + 1) L).length ≤ 10000000000000) (hd : d + 1 + Sp.szs L ≤ 1073741823) (hn : L.length ≤ 1000000000000000)
    (hk : ∀ s', WB s0 s' b (l ++ Sp.txts (d + 1) L) → W TT PT K [(0, .ptr b 0 0), (2, .int .i64 (d : Int)), (4, .ptr j4 0 0), (6, A6), (35, SL z t (L.map Sp.row)), (36, .int .i64 (L.length : Int)), (37, .int .i64 (L.length : Int))] s' Q) :
    W TT PT (.l [0, 2, 4, 6, 35, 36, 37] lp26_0 :: .b 0 :: K) [(0, .ptr b 0 0), (2, .int .i64 (d : Int)), (4, .ptr j4 0 0), (6, A6), (35, SL z t (L.map Sp.row)), (36, .int .i64 (L.length : Int)), (37, .int .i64 0)] s Q := by
  refine loop_w (α := Nat × St × List UInt8) (fun a => L.length - a.1) (fun a => [(0, .ptr b 0 0), (2, .int .i64 (d : Int)), (4, .ptr j4 0 0), (6, A6), (35, SL z t (L.map Sp.row)), (36, .int .i64 (L.length : Int)), (37, .int .i64 (a.1 : Int))]) (fun a => a.2.1) (fun a => a.1 ≤ L.length ∧ WB s0 a.2.1 b a.2.2 ∧ a.2.2 ++ Sp.txts (d + 1) (L.drop a.1) = l ++ Sp.txts (d + 1) L) ?_ (0, s, l) ⟨Nat.zero_le _, h, rfl⟩
  rintro ⟨i, s1, c⟩ ⟨hi, hw, hc⟩ ih
  simp only at hi hw hc ih
  refine w_rep (by delta lp26_0; exact rfl) ?_
  have hcl := congrArg List.length hc
  simp only [List.length_append] at hcl
  rcases Nat.lt_or_ge i L.length with h' | h'
  · obtain ⟨x, hx, hdr, hm⟩ := at_some h'
    rw [hdr, stxts_cons] at hc hcl
    rw [List.length_append] at hcl
    have hsz := ssz_mem hm
    obtain ⟨s2, e2⟩ : ∃ s2, s2 = s1 ++ [Ob.row x.row 42 0 0] := ⟨_, rfl⟩
    have w2 : WB s0 s2 b c := by rw [e2]; exact wb_row hw x
    have k2 : s2[s1.length]? = some (.row x.row 42 0 0) := by rw [e2, List.getElem?_append_right (Nat.le_refl _), Nat.sub_self]; rfl
    obtain ⟨s3, q3, v3⟩ := hW x hm s2 b c (d + 1) (wb_self w2) (by omega) (by omega)
    have hrow := srow11 x
    rw [hrow] at e2 k2 q3
    rw [e2] at q3 k2
    simp only [go_sem, lt_t h', List.getElem?_map, hx, hrow, inc64 (show d < 9223372036854775807 by omega)]
    refine wx_th q3 ?_
    simp only [go_sem, inc64 (show i < 9223372036854775807 by omega)]
    exact W_keep (ih (i + 1, s3, c ++ x.txt (d + 1)) (by simp; omega) ⟨by simp; omega, wb_trans w2 v3, by simp only; rw [List.append_assoc]; exact hc⟩) rfl
  · obtain rfl : i = L.length := by omega
    rw [List.drop_eq_nil_of_le h', show Sp.txts (d + 1) [] = [] by rw [Sp.txts], List.append_nil] at hc
    subst hc
    simp only [go_sem, lt_f h']
    exact hk s1 hw
theorem wbody1_w {K : List It} {Q : Env → St → Prop} {A6 : V} {b d : Nat} {z : Bool} {t : Nat} {L : List Sp} {s0 s : St} {l : List UInt8} (hW : ∀ x ∈ L, Wr x) (h : WB s0 s b l) (hl : l.length + (Sp.txts (d + 1) L).length ≤ 10000000000000) (hd : d + 1 + Sp.szs L ≤ 1073741823) (hn : L.length ≤ 1000000000000000)
    (hk : ∀ s', WB s0 s' b (l ++ Sp.txts (d + 1) L) → W TT PT K [(0, .ptr b 0 0), (2, .int .i64 (d : Int)), (6, A6), (57, SL z t (L.map Sp.row)), (58, .int .i64 (L.length : Int)), (59, .int .i64 (L.length : Int))] s' Q) :
    W TT PT (.l [0, 2, 6, 57, 58, 59] lp26_1 :: .b 2 :: K) [(0, .ptr b 0 0), (2, .int .i64 (d : Int)), (6, A6), (57, SL z t (L.map Sp.row)), (58, .int .i64 (L.length : Int)), (59, .int .i64 0)] s Q := by
  refine loop_w (α := Nat × St × List UInt8) (fun a => L.length - a.1) (fun a => [(0, .ptr b 0 0), (2, .int .i64 (d : Int)), (6, A6), (57, SL z t (L.map Sp.row)), (58, .int .i64 (L.length : Int)), (59, .int .i64 (a.1 : Int))]) (fun a => a.2.1) (fun a => a.1 ≤ L.length ∧ WB s0 a.2.1 b a.2.2 ∧ a.2.2 ++ Sp.txts (d + 1) (L.drop a.1) = l ++ Sp.txts (d + 1) L) ?_ (0, s, l) ⟨Nat.zero_le _, h, rfl⟩
  rintro ⟨i, s1, c⟩ ⟨hi, hw, hc⟩ ih
  simp only at hi hw hc ih
  refine w_rep (by delta lp26_1; exact rfl) ?_
  have hcl := congrArg List.length hc
  simp only [List.length_append] at hcl
  rcases Nat.lt_or_ge i L.length with h' | h'
  · obtain ⟨x, hx, hdr, hm⟩ := at_some h'
    rw [hdr, stxts_cons] at hc hcl
    rw [List.length_append] at hcl
    have hsz := ssz_mem hm
    obtain ⟨s2, e2⟩ : ∃ s2, s2 = s1 ++ [Ob.row x.row 42 0 0] := ⟨_, rfl⟩
    have w2 : WB s0 s2 b c := by rw [e2]; exact wb_row hw x
    have k2 : s2[s1.length]? = some (.row x.row 42 0 0) := by rw [e2, List.getElem?_append_right (Nat.le_refl _), Nat.sub_self]; rfl
    obtain ⟨s3, q3, v3⟩ := hW x hm s2 b c (d + 1) (wb_self w2) (by omega) (by omega)
    have hrow := srow11 x
    rw [hrow] at e2 k2 q3
    rw [e2] at q3 k2
    simp only [go_sem, lt_t h', List.getElem?_map, hx, hrow, inc64 (show d < 9223372036854775807 by omega)]
    refine wx_th q3 ?_
    simp only [go_sem, inc64 (show i < 9223372036854775807 by omega)]
    exact W_keep (ih (i + 1, s3, c ++ x.txt (d + 1)) (by simp; omega) ⟨by simp; omega, wb_trans w2 v3, by simp only; rw [List.append_assoc]; exact hc⟩) rfl
  · obtain rfl : i = L.length := by omega
    rw [List.drop_eq_nil_of_le h', show Sp.txts (d + 1) [] = [] by rw [Sp.txts], List.append_nil] at hc
    subst hc
    simp only [go_sem, lt_f h']
    exact hk s1 hw
theorem wstmt_th {x : Sp} (h : CnS x) : Wr x := by
  induction h with
  | @mk x h1 h2 h3 h4 h5 h6 h7 h8 h9 ihb ihe =>
    intro s b l d h hl hd
    have hs : CnS x := .mk h1 h2 h3 h4 h5 h6 h7 h8 h9
    rw [ssz_eq] at hd
    have hbn : s.length ≠ b := by
      obtain ⟨⟨u, p, hb, -⟩, -⟩ := h
      have := (List.getElem?_eq_some_iff.1 hb).1
      omega
    rw [stxt_eq] at hl ⊢
    simp only [List.length_append, ind_len] at hl
    have hh := fhead_fn hs (by omega)
    have hrep := rep_ind d (by omega)
    have hset := sset x
    have g0 : (1073741823 < (d : Int)) = False := eq_false (by omega)
    have hil := ind_len d
    generalize hH : headE x = H at hl hh ⊢
    generalize hT : indE d = T at hl hrep hil ⊢
    refine th_ex T26 rfl ?_ rfl rfl (fun σ1 h => ⟨h.2.2.1, h.2.1⟩)
    obtain ⟨s1, e1⟩ : ∃ s1, s1 = s ++ [Ob.row x.row 42 0 0] := ⟨_, rfl⟩
    have w1 : WB s s1 b l := by rw [e1]; exact wb_row h x
    have k1 : s1[s.length]? = some (.row x.row 42 0 0) := by rw [e1, List.getElem?_append_right (Nat.le_refl _), Nat.sub_self]; rfl
    have hrow := srow11 x
    obtain ⟨s2, q2, w2, v2⟩ := wb_write w1 T (by omega)
    have k2 := v2.2.2.2 s.length _ _ _ _ hbn (by decide) k1
    obtain ⟨s3, q3, w3, v3⟩ := wb_write w2 H (by simp; omega)
    have k3 := v3.2.2.2 s.length _ _ _ _ hbn (by decide) k2
    rw [hrow] at e1 k2 k3 hh ⊢
    rw [e1] at q2
    cases hb : bodyE x.op
    · rw [hb] at hh hl
      simp only [Bool.false_eq_true, if_false, List.length_cons, List.length_nil] at hl ⊢
      obtain ⟨s4, q4, w4, v4⟩ := wb_write w3 [59, 10] (by simp; omega)
      simp only [go_sem, g0]
      refine wx_pr P49 (by simp only [go_sem]) hrep ?_
      simp only [go_sem]
      refine wx_th q2 ?_
      simp only [go_sem, k2]
      refine wx_fn hh (by simp only [go_sem]) ?_
      simp only [go_sem]
      refine wx_th q3 ?_
      simp only [go_sem]
      refine wx_th q4 ?_
      simp only [go_sem]
      exact ⟨rfl, by simpa using w4⟩
    · rw [hb] at hh hl
      simp only [if_true, List.length_cons, List.length_append, List.length_nil] at hl ⊢
      have lb := list_bound x.body (d + 1)
      have le := list_bound x.els (d + 1)
      have hbn' : (x.body.map Sp.row).length = x.body.length := List.length_map ..
      have hen' : (x.els.map Sp.row).length = x.els.length := List.length_map ..
      obtain ⟨s4, q4, w4, v4⟩ := wb_write w3 [32, 123, 10] (by simp; omega)
      have k4 := v4.2.2.2 s.length _ _ _ _ hbn (by decide) k3
      simp only [go_sem, g0]
      refine wx_pr P49 (by simp only [go_sem]) hrep ?_
      simp only [go_sem]
      refine wx_th q2 ?_
      simp only [go_sem, k2]
      refine wx_fn hh (by simp only [go_sem]) ?_
      simp only [go_sem]
      refine wx_th q3 ?_
      simp only [go_sem]
      refine wx_th q4 ?_
      simp only [go_sem, k4, hbn']
      refine wbody0_w (d := d) (L := x.body) (l := l ++ T ++ H ++ [32, 123, 10]) ihb (wb_self w4) (by simp; omega) (by omega) (by omega) fun s5 w5 => ?_
      have k5 := w5.2.2.2 s.length _ _ _ _ hbn (by decide) k4
      have w5' := wb_trans w4 w5
      cases hels : x.els with
      | nil =>
        have e0 : ((0 : Int) < ((([] : List Sp).map Sp.row).length : Int)) = False := eq_false (by simp)
        rw [hels] at k5 hl
        simp only [List.map_nil] at k5
        obtain ⟨s6, q6, w6, v6⟩ := wb_write w5' T (by simp; omega)
        obtain ⟨s7, q7, w7, v7⟩ := wb_write w6 [125, 10] (by simp; omega)
        simp only [go_sem, k5, Int.reduceLT]
        refine wx_th q6 ?_
        simp only [go_sem]
        refine wx_th q7 ?_
        simp only [go_sem]
        exact ⟨rfl, by simpa using w7⟩
      | cons y ys =>
        rw [hels] at k5 hl le hd hen' ihe
        have e0 : ((0 : Int) < ((ys.length + 1 : Nat) : Int)) = True := eq_true (by omega)
        simp only [List.isEmpty_cons, Bool.false_eq_true, if_false, List.length_cons, List.length_append] at hl ⊢
        obtain ⟨s6, q6, w6, v6⟩ := wb_write w5' T (by simp; omega)
        have k6 := v6.2.2.2 s.length _ _ _ _ hbn (by decide) k5
        obtain ⟨s7, q7, w7, v7⟩ := wb_write w6 [125, 32, 101, 108, 115, 101, 32, 123, 10] (by simp; omega)
        have k7 := v7.2.2.2 s.length _ _ _ _ hbn (by decide) k6
        simp only [go_sem, k5, List.length_map, List.length_cons, e0]
        refine wx_th q6 ?_
        simp only [go_sem]
        refine wx_th q7 ?_
        simp only [go_sem, k7, List.length_map, List.length_cons]
        refine wbody1_w (d := d) (L := y :: ys) (l := l ++ T ++ H ++ [32, 123, 10] ++ Sp.txts (d + 1) x.body ++ T ++ [125, 32, 101, 108, 115, 101, 32, 123, 10]) ihe (wb_self w7) (by simp; omega) (by omega) (by omega) fun s8 w8 => ?_
        obtain ⟨s9, q9, w9, v9⟩ := wb_write (wb_trans w7 w8) T (by simp; omega)
        obtain ⟨s10, q10, w10, v10⟩ := wb_write w9 [125, 10] (by simp; omega)
        simp only [go_sem]
        refine wx_th q9 ?_
        simp only [go_sem]
        refine wx_th q10 ?_
        simp only [go_sem]
        exact ⟨rfl, by simpa using w10⟩
end Go.Proofs.YtlehfgdhebapeaaDoor.KM
