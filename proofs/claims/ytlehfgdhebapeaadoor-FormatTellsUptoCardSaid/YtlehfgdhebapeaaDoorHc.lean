/- Walks: loose statements, the parts. -/
import Derived.Test.YtlehfgdhebapeaaDoorHb
import Derived.Test.YtlehfgdhebapeaaDoorLc
set_option linter.all false
namespace Go.Proofs.YtlehfgdhebapeaaDoor.KM
open Go
def ZB : Nat → Nat
  | 0 => 1
  | k + 1 => 1 + 4 * ZB k
/-- a statement of limited depth and text -/
def SB (k : Nat) (x : Sp) : Prop := ShS x ∧ x.sz ≤ ZB k ∧ ∀ d, d + k ≤ 100 → (x.txt d).length ≤ 1000 * ZB k
theorem sb_siz {k : Nat} : ∀ {l : List Sp}, (∀ x ∈ l, SB k x) → Sp.szs l ≤ l.length * ZB k
  | [], _ => by simp [Sp.szs]
  | x :: l, h => by
    have h1 := sb_siz (fun y hy => h y (List.mem_cons_of_mem _ hy))
    obtain ⟨-, h3, -⟩ := h x List.mem_cons_self
    rw [Sp.szs, List.length_cons, Nat.add_mul]
    omega
theorem sb_sum {k d : Nat} : ∀ {l : List Sp}, (∀ x ∈ l, SB k x) → d + k ≤ 100 → (Sp.txts d l).length ≤ l.length * (1000 * ZB k)
  | [], _, _ => by simp [Sp.txts]
  | x :: l, h, hd => by
    have h1 := sb_sum (fun y hy => h y (List.mem_cons_of_mem _ hy)) hd
    obtain ⟨-, -, h4⟩ := h x List.mem_cons_self
    have h4 := h4 d hd
    rw [stxts_cons, List.length_append, List.length_cons, Nat.add_mul]
    omega
theorem hd_len {s : Sp} (h1 : s.nm.length ≤ 4) (h2 : s.arg.length ≤ 4) (h3 : (idxE s.idx).length ≤ 56) (h4 : s.op = 1 ∨ s.op = 2 ∨ s.op = 3 ∨ s.op = 14 → s.ex.txt.length ≤ 118) : (headE s).length ≤ 300 := by
  have hw : (wordE s.op).length ≤ 11 := by
    unfold wordE
    split <;> simp
  unfold headE
  repeat' split
  all_goals simp
  all_goals omega
theorem sb_mk {k : Nat} {x : Sp} (h1 : 1 ≤ x.op ∧ x.op ≤ 15) (h2 : x.idx.length ≤ 1) (h3 : x.op ≠ 1 → x.idx = []) (h4 : ∀ y ∈ x.idx, ShE y ∧ y.txt.length ≤ 54) (h5 : (x.op = 1 ∨ x.op = 2 ∨ x.op = 3 ∨ x.op = 14) → ShE x.ex ∧ x.ex.txt.length ≤ 118) (h5' : valuedE x.op = false → blankX x.ex) (h6 : (namelessE x.op = true ∧ x.nm = []) ∨ (namelessE x.op = false ∧ Nm4 x.nm)) (h7 : (x.op ≠ 15 ∧ x.arg = []) ∨ (x.op = 15 ∧ Nm4 x.arg))
    (h8 : bodyE x.op = false → x.body = []) (h8' : x.op ≠ 2 → x.els = []) (h9 : bodyE x.op = true → k ≠ 0 ∧ x.body.length ≤ 3 ∧ x.els.length ≤ 1 ∧ (∀ y ∈ x.body, SB (k - 1) y) ∧ ∀ y ∈ x.els, SB (k - 1) y) : SB k x := by
  have hi : (idxE x.idx).length ≤ 56 := by
    refine Nat.le_trans (idxE_len _) ?_
    cases hx : x.idx with
    | nil => simp
    | cons a r =>
      have := (h4 a (by rw [hx]; exact List.mem_cons_self)).2
      simp only
      omega
  have l6 : x.nm.length ≤ 4 := by
    rcases h6 with ⟨-, h⟩ | ⟨-, -, h⟩
    · rw [h]; exact Nat.zero_le _
    · exact h
  have l7 : x.arg.length ≤ 4 := by
    rcases h7 with ⟨-, h⟩ | ⟨-, -, h⟩
    · rw [h]; exact Nat.zero_le _
    · exact h
  have g1 : namelessE x.op = true → x.nm = [] := fun h => by
    rcases h6 with ⟨-, h'⟩ | ⟨h', -⟩
    · exact h'
    · rw [h] at h'; cases h'
  have g2 : namelessE x.op = false → isNameE x.nm = true := fun h => by
    rcases h6 with ⟨h', -⟩ | ⟨-, h', -⟩
    · rw [h] at h'; cases h'
    · exact h'
  have g3 : x.op = 15 → isNameE x.arg = true := fun h => by
    rcases h7 with ⟨h', -⟩ | ⟨-, h', -⟩
    · exact absurd h h'
    · exact h'
  have g4 : x.op ≠ 15 → x.arg = [] := fun h => by
    rcases h7 with ⟨-, h'⟩ | ⟨h', -⟩
    · exact h'
    · exact absurd h' h
  have g5 : valuedE x.op = true → ShE x.ex := fun h => (h5 (by
    simp only [valuedE, Bool.or_eq_true, beq_iff_eq] at h
    exact h)).1
  have hh := hd_len l6 l7 hi (fun h => (h5 h).2)
  cases hb : bodyE x.op
  · have hb0 := h8 hb
    have he0 : x.els = [] := by
      refine h8' fun h => ?_
      rw [h] at hb
      cases hb
    have hz : 1 ≤ ZB k := by cases k <;> simp [ZB]
    refine ⟨.mk h1 g1 g2 g3 g4 h2 h3 (fun y hy => (h4 y hy).1) g5 h5' h8 h8' (by rw [hb0]; simp) (by rw [he0]; simp), ?_, fun d hd => ?_⟩
    · rw [ssz_eq, hb0, he0]
      simp [Sp.szs]
      omega
    · rw [stxt_eq, hb]
      simp only [List.length_append, ind_len, Bool.false_eq_true, if_false, List.length_cons, List.length_nil]
      omega
  · obtain ⟨hk, hbl, hel, hB, hE⟩ := h9 hb
    obtain ⟨k, rfl⟩ : ∃ j, k = j + 1 := ⟨k - 1, by omega⟩
    rw [Nat.add_sub_cancel] at hB hE
    refine ⟨.mk h1 g1 g2 g3 g4 h2 h3 (fun y hy => (h4 y hy).1) g5 h5' h8 h8' (fun y hy => (hB y hy).1) (fun y hy => (hE y hy).1), ?_, fun d hd => ?_⟩
    · have h1 := sb_siz hB
      have h2 := sb_siz hE
      have h3 := Nat.mul_le_mul_right (ZB k) hbl
      have h4 := Nat.mul_le_mul_right (ZB k) hel
      rw [ssz_eq, ZB]
      omega
    · have h1 := sb_sum (d := d + 1) hB (by omega)
      have h2 := sb_sum (d := d + 1) hE (by omega)
      have h3 := Nat.mul_le_mul_right (1000 * ZB k) hbl
      have h4 := Nat.mul_le_mul_right (1000 * ZB k) hel
      rw [stxt_eq, hb]
      have h5 : (if x.els.isEmpty = true then [] else indE d ++ 125 :: 32 :: 101 :: 108 :: 115 :: 101 :: 32 :: 123 :: 10 :: Sp.txts (d + 1) x.els).length ≤ 2 * d + 9 + (Sp.txts (d + 1) x.els).length := by
        split
        · simp
        · simp [ind_len]; omega
      simp only [List.length_append, ind_len, if_true, List.length_cons, List.length_nil, ZB]
      omega
/-- a name out of a few -/
theorem llock {rs : List (List UInt8)} (hr : rs ≠ []) (hrl : rs.length ≤ 100) (hra : (rs.all fun x => isNameE x && decide (x.length ≤ 4)) = true) {s : St} {m b : Nat} (h : LS s m b) :
    ∃ v s', ThP TT PT 71 [.ptr m 0 0, .lst 1 (rs.map fun x => [V.str x])] s v s' ∧ (∃ nm, v = .str nm ∧ Nm4 nm) ∧ LW s s' m b ∧ s'.length = s.length := by
  refine thp_go T71 rfl ?_
  obtain ⟨line, left, m1⟩ := ls_row h
  obtain ⟨k, s2, q2, w2, l2, r2, -⟩ := lnx h 8 8 rfl (by omega)
  obtain ⟨line2, left2, m2⟩ := ls_row w2.2.2.1
  have hlen : (rs.map fun x => [V.str x]).length = rs.length := List.length_map ..
  have hpos : 0 < rs.length := List.length_pos_iff.2 hr
  by_cases h7 : k = 7
  · subst h7
    obtain ⟨j, s3, q3, w3, l3, r3, -⟩ := lnx w2.2.2.1 9 9 rfl (by omega)
    obtain ⟨nm, hn, hnl⟩ := pick_str [[120], [113], [97], [109], [114], [99], [102], [116], [122, 122]] (by kernel_rfl) (j := j) (by simp; omega)
    simp only [List.map_cons, List.map_nil] at hn
    simp only [go_sem, m1]
    refine wx_any q2 ?_
    simp only [go_sem, m2, Int.cast_ofNat_Int, Int.reduceBEq]
    refine wx_any q3 ?_
    simp only [go_sem, hn]
    exact lw_end (P := fun v => ∃ nm, v = V.str nm ∧ Nm4 nm) rfl ⟨rfl, rfl⟩ (lw_trans w2 w3) ⟨nm, rfl, hnl⟩
  · have f1 : ((k : Int) == 7) = false := by simp; omega
    obtain ⟨j, s3, q3, w3, l3, r3, -⟩ := lnx w2.2.2.1 rs.length _ rfl (by omega)
    obtain ⟨nm, hn, hnl⟩ := pick_str rs hra (j := j) (by omega)
    simp only [go_sem, m1]
    refine wx_any q2 ?_
    simp only [go_sem, m2, f1, hlen]
    refine wx_any q3 ?_
    simp only [go_sem, hn]
    exact lw_end (P := fun v => ∃ nm, v = V.str nm ∧ Nm4 nm) rfl ⟨rfl, rfl⟩ (lw_trans w2 w3) ⟨nm, rfl, hnl⟩
theorem lw_same {s σ τ : St} {m b : Nat} (h : LW s σ m b) (hl : s.length ≤ τ.length) (hj : ∀ j, j < s.length → τ[j]? = σ[j]?) : LW s τ m b := by
  obtain ⟨h1, h2, ⟨⟨z, t, r, a, h3, h3'⟩, h4, u, w, h5, h8⟩, h6, h7⟩ := h
  exact ⟨hl, fun i hi hb hm => by rw [hj i hi]; exact h2 i hi hb hm, ⟨⟨z, t, r, a, by rw [hj b h6]; exact h3, h3'⟩, h4, u, w, by rw [hj m h7]; exact h5, h8⟩, h6, h7⟩
theorem gw_lw {s σ τ : St} {m b k e : Nat} {u : V} {xs : List (List V)} (h : GW σ k e s.length u xs) (hw : LW σ τ m b) (hm : m < s.length) (hb : b < s.length) : GW τ k e s.length u xs := by
  rcases h with h | ⟨hn, i, g, h, ho, hlo⟩
  · exact .inl h
  · exact .inr ⟨hn, i, g, h, by rw [hw.2.1 i (List.getElem?_eq_some_iff.1 ho).1 (by omega) (by omega)]; exact ho, hlo⟩
/-- a maker's function ends with a list of its own -/
theorem lw_fin {f p : Nat} {res : List AR} {thr : Bool} {body : AC} {vs : List V} {s : St} {m b k ty : Nat} {P : List (List V) → Prop} (hT : TT f = some ⟨p, res, thr, body, none⟩) (hl : vs.length = p)
    (h : W TT PT [.c body] (parEnv 0 vs) s (Hd fun e' σ1 => ∃ u xs, resV e' σ1 res = some u ∧ GW σ1 k ty s.length u xs ∧ (0 < k ∧ (∀ r ∈ xs, r.length = k) ∧ ∀ r ∈ xs, r.all V.rowB = true) ∧ LW s σ1 m b ∧ P xs)) :
    ∃ v s', ThP TT PT f vs s v s' ∧ (∃ xs, v = SL true 0 xs ∧ P xs) ∧ LW s s' m b ∧ s'.length = s.length := by
  obtain ⟨e', σ1, hE, u, xs, hr, hg, ⟨hk, hlen, hrow⟩, hw, hP⟩ := h
  have hoc := gw_oc hg hk hlen hrow u.refs (fun i hi => hi) 7
  have hrefs : (SL true 0 xs).refs = [] := by unfold SL; split <;> rfl
  have hfr : (∀ j, j < s.length → (σ1.freeze u.refs)[j]? = σ1[j]?) := by
    intro j hj
    rcases hg with ⟨rfl, -⟩ | ⟨-, i, g, rfl, ho, hlo⟩
    · rfl
    · exact freeze_one _ _ _ (by omega)
  have hw2 : LW s (σ1.freeze u.refs) m b := lw_same hw (by rw [freeze_len]; exact hw.1) hfr
  refine ⟨SL true 0 xs, (σ1.freeze u.refs).take s.length, ?_, ⟨xs, rfl, hP⟩, lw_take hw2⟩
  refine ThS_intro hT rfl hl ⟨e', σ1, hE, u, u.refs, hr, ?_, ?_, ?_, lw_left hw2, rfl⟩
  · rcases hg with ⟨rfl, -⟩ | ⟨-, i, g, rfl, -⟩ <;> rfl
  · rcases hg with ⟨rfl, -⟩ | ⟨-, i, g, rfl, -⟩ <;> exact hoc
  · rw [hrefs]; rfl
def LSt (k m b : Nat) (s : St) : Prop := (∃ line left : Int, s[m]? = some (.row [.ptr b 0 0, .int .i64 line, .int .i64 left] 56 0 0) ∧ 1 ≤ left) → ∃ v s', ThP TT PT 44 [.ptr m 0 0, .int .i64 (k : Int)] s v s' ∧ (∃ x : Sp, v = .agg x.row ∧ SB k x) ∧ LW s s' m b ∧ s'.length = s.length
def LSs (k n m b : Nat) (s : St) : Prop := ∃ v s', ThP TT PT 22 [.ptr m 0 0, .int .i64 (k : Int), .int .i64 (n : Int)] s v s' ∧ (∃ L : List Sp, v = SL true 0 (L.map Sp.row) ∧ L.length ≤ n ∧ ∀ x ∈ L, SB k x) ∧ LW s s' m b ∧ s'.length = s.length
theorem lstmts {k : Nat} (hS : ∀ s m b, LS s m b → LSt k m b s) (n : Nat) (hn : n ≤ 1000000) {s : St} {m b : Nat} (h : LS s m b) : LSs k n m b s := by
  have hm0 := ls_lt h
  have hb0 := ts_lt h.1
  suffices hh : ∃ v s', ThP TT PT 22 [.ptr m 0 0, .int .i64 (k : Int), .int .i64 (n : Int)] s v s' ∧ (∃ xs, v = SL true 0 xs ∧ ∃ L : List Sp, xs = L.map Sp.row ∧ L.length ≤ n ∧ ∀ x ∈ L, SB k x) ∧ LW s s' m b ∧ s'.length = s.length by
    obtain ⟨v, s', h1, ⟨xs, h2, L, rfl, h3⟩, h4⟩ := hh
    exact ⟨v, s', h1, ⟨L, h2, h3⟩, h4⟩
  refine lw_fin (k := 11) (ty := 42) T22 rfl ?_
  simp only [go_sem]
  refine loop_w (α := Nat × St × V × List Sp) (fun a => n - a.1) (fun a => [(0, .ptr m 0 0), (1, .int .i64 (k : Int)), (2, .int .i64 (n : Int)), (7, a.2.2.1), (8, .int .i64 (a.1 : Int))]) (fun a => a.2.1) (fun a => a.1 ≤ n ∧ LW s a.2.1 m b ∧ GW a.2.1 11 42 s.length a.2.2.1 (a.2.2.2.map Sp.row) ∧ a.2.2.2.length = a.1 ∧ ∀ x ∈ a.2.2.2, SB k x) ?_ (0, s, .nils, []) ⟨Nat.zero_le _, lw_refl h, gw_nil, rfl, by simp⟩
  rintro ⟨i, s1, u, L⟩ ⟨hi, hw, hg, hL, hB⟩ ih
  simp only at hi hw hg hL hB ih
  obtain ⟨line, left, m1⟩ := ls_row hw.2.2.1
  have hrl : ∀ r ∈ L.map Sp.row, r.length = 11 := by
    intro r hr
    obtain ⟨x, -, rfl⟩ := List.mem_map.1 hr
    exact srow_len x
  have hrr : ∀ r ∈ L.map Sp.row, r.all V.rowB = true := by
    intro r hr
    obtain ⟨x, -, rfl⟩ := List.mem_map.1 hr
    exact sset x
  refine w_rep (by delta lp22_0; exact rfl) ?_
  by_cases hc : i < n ∧ 0 < left
  · have f1 : ((i : Int) < (n : Int)) = True := eq_true (by omega)
    have f2 : ((0 : Int) < left) = True := eq_true hc.2
    obtain ⟨v, s2, q2, ⟨x, rfl, hx⟩, w2, l2⟩ := hS s1 m b hw.2.2.1 ⟨line, left, m1, by omega⟩
    have hg2 := gw_lw hg w2 hm0 hb0
    have hw2 := lw_trans hw w2
    have hxs := sset x
    have hxr := srow11 x
    obtain ⟨u', s3, ha, hg3, l3, -, f3⟩ := gw_app (bytes := 176) (y := .lst 1 [x.row]) (ys := [x.row]) hg2 (by have := hw2.1; omega) rfl (by omega) hrl (by simp [srow_len]) (by simp; omega)
    have hw3 := lw_same hw2 (by have := hw2.1; omega) f3
    have hcell := gw_cell hg
    rw [hxr] at q2 hxs ha
    simp only [go_sem, m1, f1, f2, gt_iff_lt]
    refine wx_any q2 ?_
    simp only [go_sem, ha, inc64 (show i < 9223372036854775807 by omega)]
    exact W_keep (ih (i + 1, s3, u', L ++ [x]) (by simp; omega) ⟨by simp; omega, hw3, by simpa using hg3, by simp [hL], by
      intro y hy
      rcases List.mem_append.1 hy with hy | hy
      · exact hB y hy
      · simp at hy
        subst hy
        exact hx⟩) rfl
  · have hend : ∃ v xs, some u = some v ∧ GW s1 11 42 s.length v xs ∧ (0 < 11 ∧ (∀ r ∈ xs, r.length = 11) ∧ ∀ r ∈ xs, r.all V.rowB = true) ∧ LW s s1 m b ∧ ∃ L : List Sp, xs = L.map Sp.row ∧ L.length ≤ n ∧ ∀ x ∈ L, SB k x := ⟨u, _, rfl, hg, ⟨by omega, hrl, hrr⟩, hw, L, rfl, by omega, hB⟩
    by_cases h1 : i < n
    · have f1 : ((i : Int) < (n : Int)) = True := eq_true (by omega)
      have f2 : ((0 : Int) < left) = False := eq_false (fun h => hc ⟨h1, h⟩)
      simp only [go_sem, m1, f1, f2, gt_iff_lt]
      exact hend
    · have f1 : ((i : Int) < (n : Int)) = False := eq_false (by omega)
      simp only [go_sem, m1, f1]
      exact hend
end Go.Proofs.YtlehfgdhebapeaaDoor.KM
