/- Walks: lists of entries that are their own. -/
import Derived.Test.YticpkkjnajmpoaaGreatDoorPt
import Derived.Test.YticpkkjnajmpoaaGreatDoorYz
set_option linter.all false
namespace Go.Proofs.YticpkkjnajmpoaaGreatDoor.KM
open Go
theorem put_own (z : Bool) (t : Nat) (l : List Ent) (i : Nat) (e : Ent) (hi : i ≤ l.length) (hl : l.length ≤ 1000000) (he : e.sites.length ≤ 1000000) :
    ∃ u σ0, FnO TT PT 61 [SL z t (l.map Ent.row), .int .i64 (i : Int), .agg e.row] u σ0 ∧ GW σ0 4 32 0 u ((l.take i ++ e.own :: l.drop i).map Ent.row) ∧ Cl σ0 := by
  have hc := copied_fn e he
  obtain ⟨za, ta, ha⟩ := sl_cut_hi z t 4 (l.map Ent.row) .i64 i (by simpa using hi)
  obtain ⟨zb, tb, hb⟩ := sl_cut_lo z t 4 (l.map Ent.row) .i64 i (by simpa using hi) (erows_len _)
  rw [← List.map_take] at ha
  rw [← List.map_drop] at hb
  obtain ⟨u1, s1, e1, g1, l1, -, f1⟩ := gw_app (lo := 1) (σ := [.row e.row 32 0 0]) (m := 4) (e := 32) (bytes := 48) (y := SL za ta ((l.take i).map Ent.row)) gw_nil (by simp) (sl_rows ..) (by omega) (by simp) (erows_len _) (by simp; omega)
  rw [List.nil_append] at g1
  have q1 := f1 0 (by simp)
  obtain ⟨u2, s2, e2, g2, l2, -, f2⟩ := gw_app (m := 4) (e := 32) (bytes := 48) (y := .sl s1.length 0 0 1 4 true) (ys := [e.own.row]) (gw_push (l := [.row e.own.row 32 0 0]) g1) (by simp at l1 ⊢ <;> omega) (by simp only [srcRows, get_app0] <;> rfl) (by omega) (erows_len _) (by simp [Ent.row]) (by simp; omega)
  rw [List.length_append] at l2
  have hlen2 : ∀ r ∈ (l.take i).map Ent.row ++ [e.own.row], r.length = 4 := by
    intro r hr
    rcases List.mem_append.1 hr with h | h
    · exact erows_len _ r h
    · simp at h; rw [h]; rfl
  obtain ⟨u3, s3, e3, g3, l3, -, f3⟩ := gw_app (m := 4) (e := 32) (bytes := 48) (y := SL zb tb ((l.drop i).map Ent.row)) g2 (by simp at l1; omega) (sl_rows ..) (by omega) hlen2 (erows_len _) (by simp; omega)
  have hw : ((l.take i).map Ent.row ++ [e.own.row]) ++ (l.drop i).map Ent.row = (l.take i ++ e.own :: l.drop i).map Ent.row := by simp
  rw [hw] at g3
  have c0 : Cl [.row e.row 32 0 0] := fun o ho i hi => by
    rw [List.mem_singleton.1 ho] at hi
    simp [Ob.refs, refsL_row (ent_row e)] at hi
  have hrf : refsL ((l.take i).map Ent.row ++ [e.own.row]).flatten = [] := by
    have := ents_refs (l.take i ++ [e.own])
    rwa [List.map_append] at this
  have c1 : Cl s1 := gw_app_cl (lo := 1) gw_nil (sl_rows ..) e1 rfl (ents_refs _) c0
  have c1' : Cl (s1 ++ [.row e.own.row 32 0 0]) := cl_row c1 (ent_row _)
  have c2 : Cl s2 := gw_app_cl (ys := [e.own.row]) (gw_push (l := [.row e.own.row 32 0 0]) g1) (by simp only [srcRows, get_app0] <;> rfl) e2 (ents_refs _) (by simpa using ents_refs [e.own]) c1'
  have c3 : Cl s3 := gw_app_cl g2 (sl_rows ..) e3 hrf (ents_refs _) c2
  refine ⟨u3, s3, fno_all T61 rfl ?_ (gw_refs g3) (gw_okres g3) c3, ?_, c3⟩
  rotate_left
  · rcases g3 with h | ⟨hn, i, g, h, ho, hlo⟩
    · exact .inl h
    · exact .inr ⟨hn, i, g, h, ho, by omega⟩
  simp only [ent_def] at e1 e2 q1
  simp only [go_sem, Nat.reduceEqDiff, reduceIte, Nat.reduceAdd, Nat.reduceMul, Nat.reduceLeDiff, Int.reduceLT, Int.reduceLE, Int.reduceToNat, Int.reduceAdd, Int.reduceNeg, Int.reduceEq, ha, e1, q1]
  refine wx_fn hc (by simp only [go_sem]) ?_
  simp only [go_sem, Nat.reduceEqDiff, reduceIte, Nat.reduceAdd, Nat.reduceMul, Nat.reduceLeDiff, Int.reduceLT, Int.reduceLE, Int.reduceToNat, Int.reduceAdd, Int.reduceNeg, Int.reduceEq, e2, hb, e3]
  exact ⟨rfl, rfl⟩
theorem insert_own (l : List Ent) (e : Ent) (hl : l.length ≤ 1000000) (ho : okE l) (he : e.sites.length ≤ 1000000) (hn : thereE e l = false) :
    ∃ u σ0, FnO TT PT 33 [SL true 0 (l.map Ent.row), .agg e.row] u σ0 ∧ GW σ0 4 32 0 u ((insE e.own l).map Ent.row) ∧ Cl σ0 := by
  have hp := place_fn true 0 l e (by omega) ho (by omega)
  obtain ⟨u, σ0, hq, hg, hc⟩ := put_own true 0 l (placeE e l) e (placeE_le e l) hl he
  have hins : insE e.own l = l.take (placeE e l) ++ e.own :: l.drop (placeE e l) := by
    unfold insE
    rw [thereE_own, placeE_own, hn]
    rfl
  rw [← hins] at hg
  rw [hn] at hp
  have hr : refsL [SL true 0 (l.map Ent.row), V.int .i64 (placeE e l : Int), V.agg e.row] = [] := setL_refs (by simp only [go_sem])
  have hg2 := gw_own (σ := [.row e.row 32 0 0]) (σ' := [.row e.row 32 0 0]) hg (erows_row _) rfl
  have c0 : Cl [.row e.row 32 0 0] := fun o ho i hi => by
    rw [List.mem_singleton.1 ho] at hi
    simp [Ob.refs, refsL_row (ent_row e)] at hi
  have c2 := cl_join c0 hc
  refine ⟨u.ren (· + 1), [.row e.row 32 0 0] ++ σ0.map (Ob.ren (· + 1)), fno_all T33 rfl ?_ (gw_refs hg2) (gw_okres hg2) c2, ?_, c2⟩
  · simp only [ent_def] at hp hq hr
    simp only [go_sem, Nat.reduceEqDiff, reduceIte, Nat.reduceAdd, Nat.reduceMul, Nat.reduceLeDiff, Int.reduceLT, Int.reduceLE, Int.reduceToNat, Int.reduceAdd, Int.reduceNeg, Int.reduceEq]
    refine wx_fn hp (by simp only [go_sem]) ?_
    simp only [go_sem, Nat.reduceEqDiff, reduceIte, Nat.reduceAdd, Nat.reduceMul, Nat.reduceLeDiff, Int.reduceLT, Int.reduceLE, Int.reduceToNat, Int.reduceAdd, Int.reduceNeg, Int.reduceEq]
    refine wx_call (.own (over_set (by simp only [go_sem])) hq) ?_
    rw [own_nil hr]
    simp only [go_sem, Nat.reduceEqDiff, reduceIte, Nat.reduceAdd, Nat.reduceMul, Nat.reduceLeDiff, Int.reduceLT, Int.reduceLE, Int.reduceToNat, Int.reduceAdd, Int.reduceNeg, Int.reduceEq]
    exact ⟨rfl, rfl⟩
  · rcases hg2 with h | ⟨hn, i, g, h, ho, hlo⟩
    · exact .inl h
    · exact .inr ⟨hn, i, g, h, ho, by omega⟩
theorem after_fl {σ : St} {args : List V} {v : V} (h : v.flatV = true) : after σ args v = σ := by
  unfold after
  rw [if_pos h]
/-- what is there stays as it is -/
theorem insert_there {σ : St} {lo : Nat} {u w : V} {l : List Ent} {e : Ent} (hg : GW σ 4 32 lo u (l.map Ent.row)) (hl : l.length ≤ 1000000) (ho : okE l) (he : e.sites.length ≤ 1000000) (hn : thereE e l = true)
    (hw : ∀ J : St, OC (σ ++ J) w e.sl) (hwc : w.cellB = true) (hwr : ∀ i ∈ w.refs, i < σ.length) (hc : Cl σ) :
    ∃ σ', ThP TT PT 33 [u, .agg [.int .i64 e.kind, w, .int .i64 e.seen, .int .i64 e.missed]] σ u σ' ∧ Cl σ' ∧ ∃ J, σ' = σ ++ J := by
  have hp := place_fn true 0 l e (by omega) ho (by omega)
  rw [hn] at hp
  have c1 : Cl (σ ++ [.row [.int .i64 e.kind, w, .int .i64 e.seen, .int .i64 e.missed] 32 0 0]) := cl_push hc fun i hi => by
    simp only [Ob.refs, refsL, V.refs, List.append_nil, List.nil_append] at hi
    have := hwr i hi
    omega
  have hu := gw_refs hg
  have huc := gw_cell hg
  refine ⟨_, ThP_all T33 rfl ?_ (fun i hi => by have := hu i hi; simp; omega) (gw_okres hg) (by simp) c1, c1, _, rfl⟩
  have ov1 : OV (σ ++ [.row [.int .i64 e.kind, w, .int .i64 e.seen, .int .i64 e.missed] 32 0 0]) u (SL true 0 (l.map Ent.row)) := ov_cell (gw_oc (gw_push hg) (by omega) (erows_len l) (erows_row l)) huc
  simp only [ent_def] at hp
  simp only [go_sem, Nat.reduceEqDiff, reduceIte, Nat.reduceAdd, Nat.reduceMul, Nat.reduceLeDiff, Int.reduceLT, Int.reduceLE, Int.reduceToNat, Int.reduceAdd, Int.reduceNeg, Int.reduceEq, hwc, cells1 hwc]
  refine wx_fz (.cons ov1 (.cons (ov_agg (.cons (oc_row rfl) (.cons (hw _) (.cons (oc_row rfl) (.cons (oc_row rfl) .nil))))) .nil)) hp (after_fl rfl) ?_
  simp only [go_sem, Nat.reduceEqDiff, reduceIte, Nat.reduceAdd, Nat.reduceMul, Nat.reduceLeDiff, Int.reduceLT, Int.reduceLE, Int.reduceToNat, Int.reduceAdd, Int.reduceNeg, Int.reduceEq]
  exact ⟨rfl, rfl⟩
theorem ents_inner2 (x : Item) (hx : x.ok) {p n : Nat} (hp : 0 < p) (hn : n ≤ 4) (A B C : V) (K S M : Int) (base : St) (k : List It) (Q : Env → St → Prop)
    (hend : ∀ u s, Cl s → p + 2 ≤ s.length → (∀ j, j < p → s[j]? = base[j]?) → s[p + 1]? = some (.row [.int .i64 K, u, .int .i64 S, .int .i64 M] 32 0 0) → GW s 3 41 (p + 2) u (((x.nums.take n).map keyOf).map krow) →
      W TT PT k [(3, .ptr 0 0 0), (6, .ptr (p + 1) 0 0), (11, A), (12, B), (13, C), (49, .sl p 0 3 n 1 false), (50, .int .i64 n), (51, .int .i64 n)] s Q) :
    ∀ a : Nat × V × St, (a.1 ≤ n ∧ Cl a.2.2 ∧ p + 2 ≤ a.2.2.length ∧ (∀ j, j < p → a.2.2[j]? = base[j]?) ∧ a.2.2[p]? = some (.row x.row 86 0 0) ∧ a.2.2[p + 1]? = some (.row [.int .i64 K, a.2.1, .int .i64 S, .int .i64 M] 32 0 0) ∧ GW a.2.2 3 41 (p + 2) a.2.1 (((x.nums.take a.1).map keyOf).map krow)) →
      W TT PT (.l [3, 6, 11, 12, 13, 49, 50, 51] lp21_0 :: .b 2 :: k) [(3, .ptr 0 0 0), (6, .ptr (p + 1) 0 0), (11, A), (12, B), (13, C), (49, .sl p 0 3 n 1 false), (50, .int .i64 n), (51, .int .i64 a.1)] a.2.2 Q := by
  refine loop_w (α := Nat × V × St) (fun a => n - a.1) _ _ _ ?_
  rintro ⟨j, u, s⟩ ⟨hj, hcl, hl, h0, h1, h2, hg⟩ ih
  simp only at hj hcl hl h0 h1 h2 hg ih
  refine w_rep (by delta lp21_0; exact rfl) ?_
  rcases Nat.lt_or_ge j n with h | h
  · obtain ⟨m, hm, -, -⟩ := at_some (l := x.nums) (i := j) (by simp [Item.nums]; omega)
    have hm256 : m < 256 := by
      have := List.mem_of_getElem? hm
      simp [Item.nums] at this
      unfold Item.ok at hx
      omega
    have hld : lo2 (some (.row x.row 86 0 0)) 0 1 true (3 + j) = some (.int .u8 (m : Int)) := by
      have : j = 0 ∨ j = 1 ∨ j = 2 ∨ j = 3 := by omega
      rcases this with rfl | rfl | rfl | rfl <;> simp [Item.nums] at hm <;> subst hm <;> rfl
    rw [item_def] at hld h1
    obtain ⟨u1, s1, e1, g1, l1, -, f1⟩ := gw_app (bytes := 40) (y := .lst 1 [krow (keyOf m)]) (ys := [krow (keyOf m)]) hg hl rfl (by omega) (krows_len _) (by simp [krow]) (by simp; omega)
    have hcl1 : Cl s1 := gw_app_cl hg rfl e1 (refsL_row (rows_all (krows_row _))) (by simp [krow, refsL, V.refs]) hcl
    have hcl2 : Cl (s1.set (p + 1) (.row [.int .i64 K, u1, .int .i64 S, .int .i64 M] 32 0 0)) := cl_set hcl1 fun i hi => by
      simp only [Ob.refs, refsL, V.refs, List.append_nil, List.nil_append] at hi
      exact gw_refs g1 i hi
    simp only [krow] at e1
    have q0 : ∀ j, j < p → s1[j]? = base[j]? := fun j hj => (f1 j (by omega)).trans (h0 j hj)
    have q1 := (f1 p (by omega)).trans h1
    have q2 := (f1 (p + 1) (by omega)).trans h2
    simp only [go_sem, Nat.reduceEqDiff, reduceIte, Nat.reduceAdd, Nat.reduceMul, Nat.reduceLeDiff, Int.reduceLT, Int.reduceLE, Int.reduceToNat, Int.reduceAdd, Int.reduceNeg, Int.reduceEq, lt_t h, iad_nat h, h1, hld, item_def]
    refine w_drw (by kernel_rfl) ?_
    simp only [go_sem, Nat.reduceEqDiff, reduceIte, Nat.reduceAdd, Nat.reduceMul, Nat.reduceLeDiff, Int.reduceLT, Int.reduceLE, Int.reduceToNat, Int.reduceAdd, Int.reduceNeg, Int.reduceEq, h2]
    refine wgx_fn (key_fn m hm256) rfl ?_
    simp only [go_sem, Nat.reduceEqDiff, reduceIte, Nat.reduceAdd, Nat.reduceMul, Nat.reduceLeDiff, Int.reduceLT, Int.reduceLE, Int.reduceToNat, Int.reduceAdd, Int.reduceNeg, Int.reduceEq, e1, krow]
    refine wgk_ef' (by repeat (first | exact trivial | refine ⟨.inl (by rfl), ?_⟩ | refine ⟨by rfl, ?_⟩ | refine ⟨.inr ⟨by rfl, by rfl⟩, ?_⟩)) (by repeat (first | exact trivial | refine ⟨.inl (by rfl), ?_⟩ | refine ⟨by rfl, ?_⟩ | refine ⟨.inr ⟨by rfl, by rfl⟩, ?_⟩)) ?_
    simp only [go_sem, Nat.reduceEqDiff, reduceIte, Nat.reduceAdd, Nat.reduceMul, Nat.reduceLeDiff, Int.reduceLT, Int.reduceLE, Int.reduceToNat, Int.reduceAdd, Int.reduceNeg, Int.reduceEq, q2, cells1 (gw_cell g1), gw_cell g1]
    refine wgk_ef' (by repeat (first | exact trivial | refine ⟨.inl (by rfl), ?_⟩ | refine ⟨by rfl, ?_⟩ | refine ⟨.inr ⟨by rfl, by rfl⟩, ?_⟩)) (by repeat (first | exact trivial | refine ⟨.inl (by rfl), ?_⟩ | refine ⟨by rfl, ?_⟩ | refine ⟨.inr ⟨by rfl, by rfl⟩, ?_⟩)) ?_
    simp only [go_sem, Nat.reduceEqDiff, reduceIte, Nat.reduceAdd, Nat.reduceMul, Nat.reduceLeDiff, Int.reduceLT, Int.reduceLE, Int.reduceToNat, Int.reduceAdd, Int.reduceNeg, Int.reduceEq, inc64 (show j < 9223372036854775807 by omega)]
    have e2 : ∀ j, j < p → (s1.set (p + 1) (.row [.int .i64 K, u1, .int .i64 S, .int .i64 M] 32 0 0))[j]? = base[j]? := fun j hj => by rw [List.getElem?_set_ne (by omega)]; exact q0 j hj
    refine W_keep (ih (j + 1, u1, s1.set (p + 1) (.row [.int .i64 K, u1, .int .i64 S, .int .i64 M] 32 0 0)) (by simp; omega) ⟨by simp; omega, hcl2, by simp; omega, e2, ?_, ?_, ?_⟩) rfl
    · simp only [item_def]
      rw [List.getElem?_set_ne (by omega)]
      exact q1
    · simp only
      rw [List.getElem?_set_self (by omega)]
    · simp only
      rw [take_more hm]
      exact gw_set g1 (by omega)
  · obtain rfl : j = n := by omega
    simp only [go_sem, Nat.reduceEqDiff, reduceIte, Nat.reduceAdd, Nat.reduceMul, Nat.reduceLeDiff, Int.reduceLT, Int.reduceLE, Int.reduceToNat, Int.reduceAdd, Int.reduceNeg, Int.reduceEq, lt_f h]
    exact hend u s hcl hl h0 h2 hg
theorem entries_own (z : Bool) (t : Nat) (l : List Item) (hl : l.length ≤ 9223372036854775807) (hok : ∀ x ∈ l, x.ok) : ∃ u σ0, FnO TT PT 21 [SL z t (l.map Item.row)] u σ0 ∧ (GW σ0 4 32 1 u ((preE l 20).map Ent.row) ∧ Cl σ0) := by
  refine fno_ex T21 rfl ?_ (fun v s h => ⟨h.2, gw_okres h.1, gw_refs h.1⟩)
  simp only [go_sem, Nat.reduceEqDiff, reduceIte, Nat.reduceAdd, Nat.reduceMul, Nat.reduceLeDiff, Int.reduceLT, Int.reduceLE, Int.reduceToNat, Int.reduceAdd, Int.reduceNeg, Int.reduceEq, List.length_map]
  refine loop_w (α := Nat × V × St) (fun a => l.length - a.1) (fun a => [(3, .ptr 0 0 0), (11, SL z t (l.map Item.row)), (12, .int .i64 l.length), (13, .int .i64 a.1)]) (fun a => a.2.2)
    (fun a => a.1 ≤ l.length ∧ a.1 ≤ 20 ∧ a.2.2[0]? = some (.row [.int .i64 0, a.2.1] 25 0 0) ∧ GW a.2.2 4 32 1 a.2.1 ((preE l a.1).map Ent.row) ∧ Cl a.2.2) ?_ (0, .nils, [.row [.int .i64 0, .nils] 25 0 0]) ⟨by simp, by simp, rfl, gw_nil, fun o ho i hi => by rw [List.mem_singleton.1 ho] at hi; simp [Ob.refs, refsL, V.refs] at hi⟩
  rintro ⟨i, U, s⟩ ⟨hi, hi2, h0, hG, hC⟩ ih
  simp only at hi hi2 h0 hG hC ih
  have hs : 1 ≤ s.length := (List.getElem?_eq_some_iff.1 h0).1
  obtain ⟨hp1, hp2, hp3⟩ := preE_inv l i
  refine w_rep (by delta lp21_1; exact rfl) ?_
  rcases Nat.lt_or_ge i l.length with h | h
  · obtain ⟨x, hx, -, hm⟩ := at_some h
    have hxo := hok x hm
    have hk : x.kind < 256 ∧ x.seen < 256 ∧ x.missed < 256 := ⟨hxo.1, hxo.2.1, hxo.2.2.1⟩
    have hC2 : Cl (s ++ [.row x.row 86 0 0]) := cl_push hC (by simp [Item.row, Ob.refs, refsL, V.refs])
    have hA0 : ∀ J, (s ++ J)[0]? = some (.row [.int .i64 0, U] 25 0 0) := fun J => get_app_some h0
    simp only [go_sem, Nat.reduceEqDiff, reduceIte, Nat.reduceAdd, Nat.reduceMul, Nat.reduceLeDiff, Int.reduceLT, Int.reduceLE, Int.reduceToNat, Int.reduceAdd, Int.reduceNeg, Int.reduceEq, lt_t h, List.getElem?_map, hx]
    refine wc_if (fun h2 => ?_) (fun h2 => ?_)
    · simp only [go_sem, Nat.reduceEqDiff, reduceIte, Nat.reduceAdd, Nat.reduceMul, Nat.reduceLeDiff, Int.reduceLT, Int.reduceLE, Int.reduceToNat, Int.reduceAdd, Int.reduceNeg, Int.reduceEq, hA0]
      have : preE l 20 = preE l i := by
        have : i = 20 := by simp at h2; omega
        rw [this]
      rw [this]
      exact ⟨_, rfl, gw_push hG, hC2⟩
    · have hi20 : i < 20 := by simp at h2; omega
      have w1 : IntKind.i64.wrap (x.kind : Int) = x.kind := wrap64 (by omega)
      have w2 : IntKind.i64.wrap (x.seen : Int) = x.seen := wrap64 (by omega)
      have w3 : IntKind.i64.wrap (x.missed : Int) = x.missed := wrap64 (by omega)
      have r1 : (x.kind : Int).tmod 4 = ((x.kind % 4 : Nat) : Int) := tmodN x.kind 4
      have r2 : (x.seen : Int).tmod 9 = ((x.seen % 9 : Nat) : Int) := tmodN x.seen 9
      have r3 : (x.missed : Int).tmod 8 = ((x.missed % 8 : Nat) : Int) := tmodN x.missed 8
      have r4 : (x.kind : Int).tdiv 4 = ((x.kind / 4 : Nat) : Int) := tdivN x.kind 4
      have r5 : ((x.kind / 4 : Nat) : Int).tmod 3 = ((x.kind / 4 % 3 : Nat) : Int) := tmodN (x.kind / 4) 3
      have a1 : IntKind.i64.wrap (1 + ((x.kind % 4 : Nat) : Int)) = 1 + ((x.kind % 4 : Nat) : Int) := wrap64 (by omega)
      have a2 : IntKind.i64.wrap (1 + ((x.seen % 9 : Nat) : Int)) = 1 + ((x.seen % 9 : Nat) : Int) := wrap64 (by omega)
      have a3 : IntKind.i64.wrap ((x.kind / 4 : Nat) : Int) = ((x.kind / 4 : Nat) : Int) := wrap64 (by omega)
      have a4 : IntKind.i64.wrap (2 + ((x.kind / 4 % 3 : Nat) : Int)) = 2 + ((x.kind / 4 % 3 : Nat) : Int) := wrap64 (by omega)
      have a5 : IntKind.i64.wrap (1 + ((x.kind % 4 : Nat) : Int) - 1) = ((x.kind % 4 : Nat) : Int) := by rw [wrap64 (by omega)]; omega
      have hn := nOf_le x.kind
      have hix : ([[.int .i64 2], [.int .i64 (2 + ((x.kind / 4 % 3 : Nat) : Int))], [.int .i64 2], [.int .i64 4]] : List (List V))[x.kind % 4]? = some [.int .i64 ((nOf x.kind : Nat) : Int)] := by
        have : x.kind % 4 = 0 ∨ x.kind % 4 = 1 ∨ x.kind % 4 = 2 ∨ x.kind % 4 = 3 := by omega
        unfold nOf
        rcases this with h | h | h | h <;> rw [h] <;> simp
      simp only [go_sem, Nat.reduceEqDiff, reduceIte, Nat.reduceAdd, Nat.reduceMul, Nat.reduceLeDiff, Int.reduceLT, Int.reduceLE, Int.reduceToNat, Int.reduceAdd, Int.reduceNeg, Int.reduceEq, w1, w2, w3, r1, r2, r3, r4, r5, a1, a2, a3, a4, a5, hix, hn.2]
      refine ents_inner2 x hxo (p := s.length) (n := nOf x.kind) (by omega) hn.2 _ _ _ (1 + ((x.kind % 4 : Nat) : Int)) (1 + ((x.seen % 9 : Nat) : Int)) ((x.missed % 8 : Nat) : Int) s _ _ ?_ (0, .nils, s ++ [.row x.row 86 0 0, .row [.int .i64 (1 + ((x.kind % 4 : Nat) : Int)), .nils, .int .i64 (1 + ((x.seen % 9 : Nat) : Int)), .int .i64 ((x.missed % 8 : Nat) : Int)] 32 0 0]) ⟨by simp, ?_, by simp, fun j hj => List.getElem?_append_left hj, get_app0 _ _, get_app _ _ 1, gw_nil⟩
      rotate_left
      · have c1 := cl_push (ob := .row x.row 86 0 0) hC (by simp [Item.row, Ob.refs, refsL, V.refs])
        have c2 := cl_push (ob := .row [.int .i64 (1 + ((x.kind % 4 : Nat) : Int)), .nils, .int .i64 (1 + ((x.seen % 9 : Nat) : Int)), .int .i64 ((x.missed % 8 : Nat) : Int)] 32 0 0) c1 (by simp [Ob.refs, refsL, V.refs])
        simpa using c2
      intro u s' hc' hl' hk' h2' hg'
      have h0' : s'[0]? = some (.row [.int .i64 0, U] 25 0 0) := (hk' 0 (by omega)).trans h0
      have hG' : GW s' 4 32 1 U ((preE l i).map Ent.row) := gw_keep hG hk'
      have hE : x.ent.sites.length ≤ 1000000 := by rw [ent_sites]; omega
      have hoE : okE (preE l i) := fun e he => by obtain ⟨y, -, rfl⟩ := hp3 e he; rw [ent_sites]; have := nOf_le y.kind; omega
      have hmore := preE_more (l := l) (i := i) hx
      have huc := gw_cell hg'
      have hUc := gw_cell hG'
      cases ht : thereE x.ent (preE l i)
      · obtain ⟨u1, σ0, hins, hg1, hc1⟩ := insert_own (preE l i) x.ent (by omega) hoE hE ht
        have hins2 : insE x.ent.own (preE l i) = preE l (i + 1) := hmore.symm
        rw [hins2] at hg1
        have hnam : ∀ j ∈ refsL [U, .agg [.int .i64 (1 + ((x.kind % 4 : Nat) : Int)), u, .int .i64 (1 + ((x.seen % 9 : Nat) : Int)), .int .i64 ((x.missed % 8 : Nat) : Int)]], 1 ≤ j ∧ ∀ ob, s'[j]? = some ob → ob.refs = [] := by
          intro j hj
          simp only [refsL, V.refs, List.append_nil, List.nil_append, List.mem_append] at hj
          rcases hj with hj | hj
          · exact gw_named hG' (ents_refs _) j hj
          · have := gw_named hg' (refsL_row (rows_all (krows_row _))) j hj
            exact ⟨by omega, this.2⟩
        have hjs : jsOf s' [U, .agg [.int .i64 (1 + ((x.kind % 4 : Nat) : Int)), u, .int .i64 (1 + ((x.seen % 9 : Nat) : Int)), .int .i64 ((x.missed % 8 : Nat) : Int)]] = (refsL [U, .agg [.int .i64 (1 + ((x.kind % 4 : Nat) : Int)), u, .int .i64 (1 + ((x.seen % 9 : Nat) : Int)), .int .i64 ((x.missed % 8 : Nat) : Int)]]).eraseDups := clo_flat (fun j hj => (hnam j (List.mem_eraseDups.1 hj)).2) 9
        have q0 : ∀ K : St, (s'.freeze (jsOf s' [U, .agg [.int .i64 (1 + ((x.kind % 4 : Nat) : Int)), u, .int .i64 (1 + ((x.seen % 9 : Nat) : Int)), .int .i64 ((x.missed % 8 : Nat) : Int)]]) ++ K)[0]? = some (.row [.int .i64 0, U] 25 0 0) := fun K => by
          rw [List.getElem?_append_left (by rw [freeze_len]; omega), freeze_keep _ _ _ (by rw [hjs]; intro hm; have := (hnam 0 (List.mem_eraseDups.1 hm)).1; omega)]
          exact h0'
        have g2 := gw_own (σ := s') (σ' := s'.freeze (jsOf s' [U, .agg [.int .i64 (1 + ((x.kind % 4 : Nat) : Int)), u, .int .i64 (1 + ((x.seen % 9 : Nat) : Int)), .int .i64 ((x.missed % 8 : Nat) : Int)]])) hg1 (erows_row _) (freeze_len ..)
        have c2 := cl_join (freeze_cl (jsOf s' [U, .agg [.int .i64 (1 + ((x.kind % 4 : Nat) : Int)), u, .int .i64 (1 + ((x.seen % 9 : Nat) : Int)), .int .i64 ((x.missed % 8 : Nat) : Int)]]) s' hc') hc1
        rw [freeze_len] at c2
        simp only [go_sem, Nat.reduceEqDiff, reduceIte, Nat.reduceAdd, Nat.reduceMul, Nat.reduceLeDiff, Int.reduceLT, Int.reduceLE, Int.reduceToNat, Int.reduceAdd, Int.reduceNeg, Int.reduceEq, h0', h2']
        refine wx_call (.own (over_ov (.cons (ov_cell (gw_oc hG' (by omega) (erows_len _) (erows_row _)) hUc) (.cons (ov_agg (.cons (oc_row rfl) (.cons (gw_oc hg' (by omega) (krows_len _) (krows_row _)) (.cons (oc_row rfl) (.cons (oc_row rfl) .nil))))) .nil))) hins) ?_
        unfold own
        have g2c := gw_cell g2
        simp only [go_sem, Nat.reduceEqDiff, reduceIte, Nat.reduceAdd, Nat.reduceMul, Nat.reduceLeDiff, Int.reduceLT, Int.reduceLE, Int.reduceToNat, Int.reduceAdd, Int.reduceNeg, Int.reduceEq, q0, cells1 g2c, g2c, inc64 (show i < 9223372036854775807 by omega)]
        refine W_keep (ih (i + 1, _, _) (by simp; omega) ⟨by simp; omega, by simp; omega, ?_, gw_set (j := 0) (gw_lo g2 (by omega)) (by omega), cl_set c2 ?_⟩) rfl
        · simp only
          rw [List.getElem?_set_self (by rw [List.length_append, freeze_len]; omega)]
        · intro j hj
          simp only [Ob.refs, refsL, V.refs, List.append_nil, List.nil_append] at hj
          exact gw_refs g2 j hj
      · obtain ⟨s2, hins, hc2, J, rfl⟩ := insert_there (w := u) (e := x.ent) hG' (by omega) hoE hE ht (fun J => gw_oc (gw_push hg') (by omega) (krows_len _) (krows_row _)) huc (gw_refs hg') hc'
        have hins2 : preE l (i + 1) = preE l i := by
          rw [hmore]
          unfold insE
          rw [ht, if_pos rfl]
        have q0 : (s' ++ J)[0]? = some (.row [.int .i64 0, U] 25 0 0) := get_app_some h0'
        simp only [go_sem, Nat.reduceEqDiff, reduceIte, Nat.reduceAdd, Nat.reduceMul, Nat.reduceLeDiff, Int.reduceLT, Int.reduceLE, Int.reduceToNat, Int.reduceAdd, Int.reduceNeg, Int.reduceEq, h0', h2']
        refine wx_any hins ?_
        simp only [go_sem, Nat.reduceEqDiff, reduceIte, Nat.reduceAdd, Nat.reduceMul, Nat.reduceLeDiff, Int.reduceLT, Int.reduceLE, Int.reduceToNat, Int.reduceAdd, Int.reduceNeg, Int.reduceEq, q0, cells1 hUc, hUc, inc64 (show i < 9223372036854775807 by omega)]
        refine W_keep (ih (i + 1, U, _) (by simp; omega) ⟨by simp; omega, by simp; omega, ?_, gw_set (j := 0) (by rw [hins2]; exact gw_push hG') (by omega), cl_set hc2 ?_⟩) rfl
        · simp only
          rw [List.getElem?_set_self (by simp; omega)]
        · intro j hj
          simp only [Ob.refs, refsL, V.refs, List.append_nil, List.nil_append] at hj
          have := gw_refs hG' j hj
          simp
          omega
  · simp only [go_sem, Nat.reduceEqDiff, reduceIte, Nat.reduceAdd, Nat.reduceMul, Nat.reduceLeDiff, Int.reduceLT, Int.reduceLE, Int.reduceToNat, Int.reduceAdd, Int.reduceNeg, Int.reduceEq, lt_f h, h0]
    have : preE l 20 = preE l i := by
      unfold preE
      rw [List.take_of_length_le h, List.take_of_length_le (by omega)]
    rw [this]
    exact ⟨_, rfl, hG, hC⟩
end Go.Proofs.YticpkkjnajmpoaaGreatDoor.KM
