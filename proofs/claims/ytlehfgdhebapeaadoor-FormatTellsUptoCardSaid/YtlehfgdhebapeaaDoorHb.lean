/- Walks: loose expressions. -/
import Derived.Test.YtlehfgdhebapeaaDoorHa
import Derived.Test.YtlehfgdhebapeaaDoorLb
set_option linter.all false
namespace Go.Proofs.YtlehfgdhebapeaaDoor.KM
open Go
theorem resN {τ : St} {i x t n : Nat} {cs : List V} {e : Env} (h : τ[i]? = some (.row cs t 0 0)) (h1 : e.get x = .ptr i 0 0) (hn : cs.length = n) : resV e τ [AR.cell x n false] = some (.agg cs) := by
  subst hn
  simp only [resV, resOne, h1, loadV, h]
  simp [mkOne]
theorem set_ok {cs : List V} (h : setC (.agg cs) = true) : okRes (.agg cs) = true ∧ (V.agg cs).refs = [] := ⟨setC_ok h, setC_refs h⟩
/-- a short name -/
def Nm4 (nm : List UInt8) : Prop := isNameE nm = true ∧ nm.length ≤ 4
theorem pick_str (l : List (List UInt8)) (hl : (l.all fun x => isNameE x && decide (x.length ≤ 4)) = true) {j : Nat} (hj : j < l.length) : ∃ nm, (l.map fun x => [V.str x])[j]? = some [.str nm] ∧ Nm4 nm := by
  refine ⟨l[j], by rw [List.getElem?_map, List.getElem?_eq_getElem hj]; rfl, ?_⟩
  have := List.all_eq_true.1 hl l[j] (List.getElem_mem _)
  simp only [Bool.and_eq_true, decide_eq_true_eq] at this
  exact this
theorem pick_int (l : List Int) (hl : (l.all fun n => decide (0 ≤ n ∧ n ≤ 9223372036854775807)) = true) {j : Nat} (hj : j < l.length) : ∃ n, (l.map fun x => [V.int .i64 x])[j]? = some [.int .i64 n] ∧ n ∈ l ∧ (0 ≤ n ∧ n ≤ 9223372036854775807) := by
  refine ⟨l[j], by rw [List.getElem?_map, List.getElem?_eq_getElem hj]; rfl, List.getElem_mem _, ?_⟩
  have := List.all_eq_true.1 hl l[j] (List.getElem_mem _)
  exact of_decide_eq_true this
theorem mname_fn (nm : List UInt8) : Fn TT PT 62 [.str nm] (.agg (Xp.row ⟨2, 0, nm, true, 0, []⟩)) := by
  refine Fn_go T62 rfl ?_
  simp only [go_sem]
  exact fr_set rfl
theorem mbin_fn (op : Int) (a c : Xp) : Fn TT PT 63 [.int .i64 op, .agg a.row, .agg c.row] (.agg (Xp.row ⟨op, 0, [], true, 1, [a, c]⟩)) := by
  have ha := xset a
  have hc := xset c
  refine Fn_go T63 rfl ?_
  rw [xrow_def ⟨op, 0, [], true, 1, [a, c]⟩]
  simp only [List.map_cons, List.map_nil]
  rw [xrow_def a, xrow_def c] at *
  simp only [go_sem]
  exact fr_set (by simp only [go_sem])
def EB : Nat → Nat
  | 0 => 22
  | d + 1 => 2 * EB d + 10
theorem eb_ge (d : Nat) : 22 ≤ EB d := by
  cases d with
  | zero => exact Nat.le_refl _
  | succ d =>
    have : ∀ d, 22 ≤ EB d := fun d => by
      induction d with
      | zero => exact Nat.le_refl _
      | succ d ih => simp only [EB]; omega
    exact this (d + 1)
theorem eb_step {d : Nat} (h : d ≠ 0) : EB d = 2 * EB (d - 1) + 10 := by
  cases d with
  | zero => exact absurd rfl h
  | succ d => rfl
theorem sg_len2 (op : Int) : (sgE op).length ≤ 2 := by
  unfold sgE
  split <;> simp
/-- what loose.expr gives -/
def LX (d m b : Nat) (s : St) : Prop := ∃ v s', ThP TT PT 39 [.ptr m 0 0, .int .i64 (d : Int)] s v s' ∧ (∃ x : Xp, v = .agg x.row ∧ ShE x ∧ x.txt.length ≤ EB d) ∧ LW s s' m b ∧ s'.length = s.length
theorem lexpr_step {d : Nat} (hd : d ≤ 5) (ih : d ≠ 0 → ∀ s m b, LS s m b → LX (d - 1) m b s) {s : St} {m b : Nat} (h : LS s m b) : LX d m b s := by
  have hm0 := ls_lt h
  have hb0 := ts_lt h.1
  refine thp_go T39 rfl ?_
  obtain ⟨s1, e1⟩ : ∃ s1 : St, s1 = s ++ [.row [.int .i64 0, .int .i64 0, .str [], .nils] 40 0 0] := ⟨_, rfl⟩
  have w1 : LW s s1 m b := by rw [e1]; exact lw_push (lw_refl h)
  have l1 : s1.length = s.length + 1 := by rw [e1]; simp
  have k1 : s1[s.length]? = some (.row [.int .i64 0, .int .i64 0, .str [], .nils] 40 0 0) := by rw [e1, List.getElem?_append_right (Nat.le_refl _), Nat.sub_self]; rfl
  obtain ⟨line, left, m1⟩ := ls_row w1.2.2.1
  obtain ⟨k, s2, q2, w2, l2, r2, -⟩ := lnx w1.2.2.1 20 20 rfl (by omega)
  have hk : k < 20 := by omega
  have k2 : s2[s.length]? = some (.row [.int .i64 0, .int .i64 0, .str [], .nils] 40 0 0) := by rw [w2.2.1 _ (by omega) (by omega) (by omega)]; exact k1
  obtain ⟨line2, left2, m2⟩ := ls_row w2.2.2.1
  have w12 := lw_trans w1 w2
  rw [e1] at q2 m1
  simp only [go_sem, m1]
  refine wx_any q2 ?_
  have hcase : (k < 4 ∨ (¬ k < 4 ∧ d = 0 ∧ k < 10)) ∨ ((d = 0 ∧ 10 ≤ k) ∨ (d ≠ 0 ∧ 4 ≤ k ∧ k < 8)) ∨ (d ≠ 0 ∧ k = 8) ∨ (d ≠ 0 ∧ 9 ≤ k ∧ k < 11) ∨ (d ≠ 0 ∧ 11 ≤ k) := by omega
  rcases hcase with hA | hB | hC | hD | hE
  · obtain ⟨j, s3, q3, w3, l3, r3, -⟩ := lnx w2.2.2.1 8 8 rfl (by omega)
    obtain ⟨n, hn, -, hnb⟩ := pick_int [0, 1, 2, 3, 7, 10, 100, 9223372036854775807] (by decide) (j := j) (by simp; omega)
    simp only [List.map_cons, List.map_nil] at hn
    have k3 : s3[s.length]? = some (.row [.int .i64 0, .int .i64 0, .str [], .nils] 40 0 0) := by rw [w3.2.1 _ (by omega) (by omega) (by omega)]; exact k2
    have w13 := lw_trans w12 w3
    rcases hA with h4 | ⟨h4, h0, h10⟩
    case' inl => have f1 : ((k : Int) < 4) = True := eq_true (by omega)
    case' inr => have f1 : ((k : Int) < 4) = False := eq_false (by omega)
    case' inr => have f2 : ((d : Int) == 0) = true := by simp [h0]
    case' inr => have f3 : ((k : Int) < 10) = True := eq_true (by omega)
    case' inl => simp only [go_sem, m2, f1]
    case' inr => simp only [go_sem, m2, f1, f2, f3]
    all_goals
      refine wx_any q3 ?_
      simp only [go_sem, k3, hn]
      refine lw_end (resN (List.getElem?_set_self (by omega)) rfl rfl) (set_ok (by simp only [go_sem])) (lw_set w13 (Nat.le_refl _)) ⟨⟨1, n, [], true, 0, []⟩, rfl, .num hnb, ?_⟩
      rw [xtxt_def]
      have := itoa_le n
      have := eb_ge d
      simp only [combE, if_true]
      omega
  · obtain ⟨j, s3, q3, w3, l3, r3, -⟩ := lnx w2.2.2.1 10 10 rfl (by omega)
    obtain ⟨i, s4, q4, w4, l4, r4, -⟩ := lnx w3.2.2.1 8 8 rfl (by omega)
    have hmod := Nat.mod_le j (3 + i)
    obtain ⟨nm, hn, hnl⟩ := pick_str [[120], [121], [97], [98], [118], [113], [109], [116], [122, 122], [102]] (by kernel_rfl) (j := j % (3 + i)) (by simp; omega)
    simp only [List.map_cons, List.map_nil] at hn
    have k3 : s3[s.length]? = some (.row [.int .i64 0, .int .i64 0, .str [], .nils] 40 0 0) := by rw [w3.2.1 _ (by omega) (by omega) (by omega)]; exact k2
    have k4 : s4[s.length]? = some (.row [.int .i64 0, .int .i64 0, .str [], .nils] 40 0 0) := by rw [w4.2.1 _ (by omega) (by omega) (by omega)]; exact k3
    have w14 := lw_trans (lw_trans w12 w3) w4
    obtain ⟨line3, left3, m3⟩ := ls_row w3.2.2.1
    have f1 : ((k : Int) < 4) = False := eq_false (by omega)
    have e3 : IntKind.i64.wrap (3 + (i : Int)) = ((3 + i : Nat) : Int) := by rw [wrap64 (by omega)]; omega
    have f5 : (((3 + i : Nat) : Int) = 0) = False := eq_false (by omega)
    have e4 : ((j : Int).tmod ((3 + i : Nat) : Int)) = ((j % (3 + i) : Nat) : Int) := by rw [Int.tmod_eq_emod_of_nonneg (by omega)]; rfl
    have hfn := mname_fn nm
    have hrow : Xp.row ⟨2, 0, nm, true, 0, []⟩ = [.int .i64 2, .int .i64 0, .str nm, .nils] := rfl
    rw [hrow] at hfn
    rcases hB with ⟨h0, h10⟩ | ⟨h0, h4, h8⟩
    case' inl => have f2 : ((d : Int) == 0) = true := by simp [h0]
    case' inl => have f3 : ((k : Int) < 10) = False := eq_false (by omega)
    case' inl => have f4 : ((k : Int) < 8) = False := eq_false (by omega)
    case' inr => have f2 : ((d : Int) == 0) = false := by simp [h0]
    case' inr => have f4 : ((k : Int) < 8) = True := eq_true (by omega)
    case' inl => simp only [go_sem, m2, f1, f2, f3, f4]
    case' inr => simp only [go_sem, m2, f1, f2, f4]
    all_goals
      refine w_drw (by kernel_rfl) ?_
      simp only [go_sem, m2, f1, f2]
      refine wgx_any q3 (by repeat (first | exact trivial | refine ⟨.inl (by rfl), ?_⟩ | refine ⟨by rfl, ?_⟩ | refine ⟨.inr ⟨by rfl, by rfl⟩, ?_⟩)) (by repeat (first | exact trivial | refine ⟨.inl (by rfl), ?_⟩ | refine ⟨by rfl, ?_⟩ | refine ⟨.inr ⟨by rfl, by rfl⟩, ?_⟩)) ?_
      simp only [go_sem, m3]
      refine wgR ?_
      simp only [go_sem]
      refine wgA q4 ?_
      simp only [go_sem, e3, f5, not_false_eq_true, e4, hn]
      refine wgR ?_
      simp only [go_sem]
      refine wgx_fn hfn rfl ?_
      simp only [go_sem, k4]
      refine wgE ?_
      simp only [go_sem]
      refine lw_end (resN (List.getElem?_set_self (by omega)) rfl rfl) (set_ok (by simp only [go_sem])) (lw_set w14 (Nat.le_refl _)) ⟨⟨2, 0, nm, true, 0, []⟩, rfl, .name hnl.1, ?_⟩
      rw [xtxt_def]
      have := eb_ge d
      have := hnl.2
      simp only [combE, show ((2 : Int) = 1) = False from eq_false (by omega), if_false, if_true]
      omega
  · obtain ⟨hd0, rfl⟩ := hC
    obtain ⟨j, s3, q3, w3, l3, r3, -⟩ := lnx w2.2.2.1 5 5 rfl (by omega)
    obtain ⟨nm, hn, hnl⟩ := pick_str [[113], [113], [113], [120], [109]] (by kernel_rfl) (j := j) (by simp; omega)
    simp only [List.map_cons, List.map_nil] at hn
    obtain ⟨v, s4, q4, ⟨x, rfl, hx, hxl⟩, w4, l4⟩ := ih hd0 s3 m b w3.2.2.1
    have k3 : s3[s.length]? = some (.row [.int .i64 0, .int .i64 0, .str [], .nils] 40 0 0) := by rw [w3.2.1 _ (by omega) (by omega) (by omega)]; exact k2
    have k4 : s4[s.length]? = some (.row [.int .i64 0, .int .i64 0, .str [], .nils] 40 0 0) := by rw [w4.2.1 _ (by omega) (by omega) (by omega)]; exact k3
    have w14 := lw_trans (lw_trans w12 w3) w4
    have f1 : ((8 : Int) < 4) = False := eq_false (by omega)
    have f2 : ((d : Int) == 0) = false := by simp [hd0]
    have e3 : IntKind.i64.wrap ((d : Int) - 1) = ((d - 1 : Nat) : Int) := by rw [wrap64 (by omega)]; omega
    have hxs := xset x
    have hxr := xrow_def x
    rw [hxr] at q4 hxs
    simp only [go_sem, m2, f1, f2, Int.cast_ofNat_Int, Int.reduceBEq]
    refine w_drw (by kernel_rfl) ?_
    simp only [go_sem, m2]
    refine wgx_any q3 (by repeat (first | exact trivial | refine ⟨.inl (by rfl), ?_⟩ | refine ⟨by rfl, ?_⟩ | refine ⟨.inr ⟨by rfl, by rfl⟩, ?_⟩)) (by repeat (first | exact trivial | refine ⟨.inl (by rfl), ?_⟩ | refine ⟨by rfl, ?_⟩ | refine ⟨.inr ⟨by rfl, by rfl⟩, ?_⟩)) ?_
    simp only [go_sem, hn]
    refine wgR ?_
    simp only [go_sem, e3]
    refine wgA q4 ?_
    simp only [go_sem, k4]
    refine wgE ?_
    simp only [go_sem, k4]
    refine wgE ?_
    simp only [go_sem]
    refine lw_end (resN (List.getElem?_set_self (by omega)) rfl rfl) (set_ok (by simp only [go_sem])) (lw_set w14 (Nat.le_refl _)) ⟨⟨3, 0, nm, true, 1, [x]⟩, by rw [xrow_def]; simp only [List.map_cons, List.map_nil, hxr]; rfl, .idx hnl.1 hx, ?_⟩
    rw [xtxt_def]
    have := eb_step hd0
    have := hnl.2
    simp [combE]
    omega
  · obtain ⟨hd0, h9, h11⟩ := hD
    obtain ⟨j, s3, q3, w3, l3, r3, -⟩ := lnx w2.2.2.1 2 2 rfl (by omega)
    obtain ⟨v, s4, q4, ⟨x, rfl, hx, hxl⟩, w4, l4⟩ := ih hd0 s3 m b w3.2.2.1
    have k3 : s3[s.length]? = some (.row [.int .i64 0, .int .i64 0, .str [], .nils] 40 0 0) := by rw [w3.2.1 _ (by omega) (by omega) (by omega)]; exact k2
    have k4 : s4[s.length]? = some (.row [.int .i64 0, .int .i64 0, .str [], .nils] 40 0 0) := by rw [w4.2.1 _ (by omega) (by omega) (by omega)]; exact k3
    have w14 := lw_trans (lw_trans w12 w3) w4
    have f1 : ((k : Int) < 4) = False := eq_false (by omega)
    have f2 : ((d : Int) == 0) = false := by simp [hd0]
    have f4 : ((k : Int) < 8) = False := eq_false (by omega)
    have f5 : ((k : Int) == 8) = false := by simp; omega
    have f6 : ((k : Int) < 11) = True := eq_true (by omega)
    have e3 : IntKind.i64.wrap ((d : Int) - 1) = ((d - 1 : Nat) : Int) := by rw [wrap64 (by omega)]; omega
    have e4 : IntKind.i64.wrap (4 + (j : Int)) = 4 + (j : Int) := wrap64 (by omega)
    have hxs := xset x
    have hxr := xrow_def x
    rw [hxr] at q4 hxs
    simp only [go_sem, m2, f1, f2, f4, f5, f6]
    refine wx_any q3 ?_
    simp only [go_sem, e3, e4]
    refine wx_any q4 ?_
    simp only [go_sem, k4]
    refine lw_end (resN (List.getElem?_set_self (by omega)) rfl rfl) (set_ok (by simp only [go_sem])) (lw_set w14 (Nat.le_refl _)) ⟨⟨4 + j, 0, [], true, 1, [x]⟩, by rw [xrow_def]; simp only [List.map_cons, List.map_nil, hxr]; rfl, .un (by omega) hx, ?_⟩
    rw [xtxt_def]
    have := eb_step hd0
    have h2 := (put_len (x.op, x.txt) 6).2
    simp only at h2
    have h3 : (sgE (4 + (j : Int))).length ≤ 2 := sg_len2 _
    have h0 : combE (4 + (j : Int)) 0 [] [(x.op, x.txt)] = sgE (4 + (j : Int)) ++ putE (x.op, x.txt) 6 := by
      unfold combE
      rw [if_neg (by omega), if_neg (by omega)]
      simp only
      rw [if_neg (by omega)]
    simp only [List.map_cons, List.map_nil, h0, List.length_append]
    omega
  · obtain ⟨hd0, h11⟩ := hE
    obtain ⟨j, s3, q3, w3, l3, r3, -⟩ := lnx w2.2.2.1 13 13 rfl (by omega)
    obtain ⟨v, s4, q4, ⟨x, rfl, hx, hxl⟩, w4, l4⟩ := ih hd0 s3 m b w3.2.2.1
    have k3 : s3[s.length]? = some (.row [.int .i64 0, .int .i64 0, .str [], .nils] 40 0 0) := by rw [w3.2.1 _ (by omega) (by omega) (by omega)]; exact k2
    have k4 : s4[s.length]? = some (.row [.int .i64 0, .int .i64 0, .str [], .nils] 40 0 0) := by rw [w4.2.1 _ (by omega) (by omega) (by omega)]; exact k3
    have w14 := lw_trans (lw_trans w12 w3) w4
    obtain ⟨s5, e5⟩ : ∃ s5 : St, s5 = s4 ++ [.row x.row 40 0 0] := ⟨_, rfl⟩
    have w5 : LW s s5 m b := by rw [e5]; exact lw_push w14
    have l5 : s5.length = s4.length + 1 := by rw [e5]; simp
    have k5 : s5[s.length]? = some (.row [.int .i64 0, .int .i64 0, .str [], .nils] 40 0 0) := by rw [e5]; exact get_app_some k4
    have n5 : s5[s4.length]? = some (.row x.row 40 0 0) := by rw [e5, List.getElem?_append_right (Nat.le_refl _), Nat.sub_self]; rfl
    obtain ⟨v, s6, q6, ⟨y, rfl, hy, hyl⟩, w6, l6⟩ := ih hd0 s5 m b w5.2.2.1
    have k6 : s6[s.length]? = some (.row [.int .i64 0, .int .i64 0, .str [], .nils] 40 0 0) := by rw [w6.2.1 _ (by omega) (by omega) (by omega)]; exact k5
    have w16 := lw_trans w5 w6
    have n6 : s6[s4.length]? = some (.row x.row 40 0 0) := by rw [w6.2.1 _ (by omega) (by omega) (by omega)]; exact n5
    have f1 : ((k : Int) < 4) = False := eq_false (by omega)
    have f2 : ((d : Int) == 0) = false := by simp [hd0]
    have f4 : ((k : Int) < 8) = False := eq_false (by omega)
    have f5 : ((k : Int) == 8) = false := by simp; omega
    have f6 : ((k : Int) < 11) = False := eq_false (by omega)
    have e3 : IntKind.i64.wrap ((d : Int) - 1) = ((d - 1 : Nat) : Int) := by rw [wrap64 (by omega)]; omega
    have e4 : IntKind.i64.wrap (6 + (j : Int)) = 6 + (j : Int) := wrap64 (by omega)
    have hbn := mbin_fn (6 + (j : Int)) x y
    have hxs := xset x
    have hys := xset y
    have hxr := xrow_def x
    have hyr := xrow_def y
    have hrr : Xp.row ⟨6 + (j : Int), 0, [], true, 1, [x, y]⟩ = [.int .i64 (6 + (j : Int)), .int .i64 0, .str [], .lst 1 [x.row, y.row]] := by rw [xrow_def]; rfl
    rw [hrr] at hbn
    rw [hxr] at q4 hxs e5 n5 n6 hbn hrr
    rw [hyr] at q6 hys hbn hrr
    rw [e5] at q6 n5
    simp only [go_sem, m2, f1, f2, f4, f5, f6]
    refine wx_any q3 ?_
    simp only [go_sem, e3, e4]
    refine wx_any q4 ?_
    simp only [go_sem]
    refine w_drw (by kernel_rfl) ?_
    simp only [go_sem, n5, e3]
    refine wgx_any q6 (by repeat (first | exact trivial | refine ⟨.inl (by rfl), ?_⟩ | refine ⟨by rfl, ?_⟩ | refine ⟨.inr ⟨by rfl, by rfl⟩, ?_⟩)) ⟨.inr ⟨rdN n5 rfl rfl, rdN n6 rfl rfl⟩, trivial⟩ ?_
    simp only [go_sem]
    refine wgx_fn hbn (by simp only [go_sem]) ?_
    simp only [go_sem, k6]
    refine wgE ?_
    simp only [go_sem]
    refine lw_end (resN (List.getElem?_set_self (by omega)) rfl rfl) (set_ok (by simp only [go_sem])) (lw_set w16 (Nat.le_refl _)) ⟨⟨6 + j, 0, [], true, 1, [x, y]⟩, by rw [hrr], .bin (by omega) hx hy, ?_⟩
    rw [xtxt_def]
    have := eb_step hd0
    have h2 := (put_len (x.op, x.txt) (leftE (6 + (j : Int)))).2
    have h2' := (put_len (y.op, y.txt) (lvE (6 + (j : Int)) + 1)).2
    simp only at h2 h2'
    have h3 : (sgE (6 + (j : Int))).length ≤ 2 := sg_len2 _
    have h0 : combE (6 + (j : Int)) 0 [] [(x.op, x.txt), (y.op, y.txt)] = putE (x.op, x.txt) (leftE (6 + (j : Int))) ++ 32 :: (sgE (6 + (j : Int)) ++ 32 :: putE (y.op, y.txt) (lvE (6 + (j : Int)) + 1)) := by
      unfold combE
      rw [if_neg (by omega), if_neg (by omega)]
    simp only [List.map_cons, List.map_nil, h0, List.length_append, List.length_cons]
    omega
theorem lexpr : ∀ (d : Nat), d ≤ 5 → ∀ (s : St) (m b : Nat), LS s m b → LX d m b s
  | 0, hd, s, m, b, h => lexpr_step hd (fun h => absurd rfl h) h
  | d + 1, hd, s, m, b, h => lexpr_step hd (fun _ => lexpr d (by omega)) h
end Go.Proofs.YtlehfgdhebapeaaDoor.KM
