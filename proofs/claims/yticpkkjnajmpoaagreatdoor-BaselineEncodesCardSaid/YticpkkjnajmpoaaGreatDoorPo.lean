/- Walks: Compare and Update of baselines, whole. -/
import Derived.Test.YticpkkjnajmpoaaGreatDoorPl
set_option linter.all false
namespace Go.Proofs.YticpkkjnajmpoaaGreatDoor.KM
open Go
theorem valid_parts {n : Int} {l : List Ent} (h : validB n l = true) : l.length ≤ 64 ∧ Asc l ∧ (∀ x ∈ l, okV x) ∧ 0 ≤ n ∧ n ≤ 1073741824 := by
  unfold validB at h
  simp only [Bool.and_eq_true, decide_eq_true_eq] at h
  exact ⟨h.1.2, validL_asc h.2, validL_ent h.2, h.1.1.1, h.1.1.2⟩
theorem fits_fn (z z' : Bool) (t t' : Nat) (n : Int) (l m : List Ent) (ho : okE l) (ho' : okE m) : Fn TT PT 55 [.agg [.int .i64 n, SL z t (l.map Ent.row)], SL z' t' (m.map Ent.row)] (.bool (validB n l && validB 1 m)) := by
  have h1 := valid_fn z t n l ho
  have h2 := valid_fn z' t' 1 m ho'
  refine Fn_go T55 rfl ?_
  cases hv : validB n l
  · rw [hv] at h1
    simp only [go_sem, Nat.reduceEqDiff, reduceIte, Nat.reduceAdd, Nat.reduceMul, Nat.reduceLeDiff, Int.reduceLT, Int.reduceLE, Int.reduceToNat, Int.reduceAdd, Int.reduceNeg, Int.reduceEq]
    refine wx_fn h1 (by simp only [go_sem]) ?_
    simp only [go_sem, Nat.reduceEqDiff, reduceIte, Nat.reduceAdd, Nat.reduceMul, Nat.reduceLeDiff, Int.reduceLT, Int.reduceLE, Int.reduceToNat, Int.reduceAdd, Int.reduceNeg, Int.reduceEq]
    exact fr_set rfl
  · rw [hv] at h1
    simp only [go_sem, Nat.reduceEqDiff, reduceIte, Nat.reduceAdd, Nat.reduceMul, Nat.reduceLeDiff, Int.reduceLT, Int.reduceLE, Int.reduceToNat, Int.reduceAdd, Int.reduceNeg, Int.reduceEq]
    refine wx_fn h1 (by simp only [go_sem]) ?_
    simp only [go_sem, Nat.reduceEqDiff, reduceIte, Nat.reduceAdd, Nat.reduceMul, Nat.reduceLeDiff, Int.reduceLT, Int.reduceLE, Int.reduceToNat, Int.reduceAdd, Int.reduceNeg, Int.reduceEq]
    refine wx_fn h2 (by simp only [go_sem]) ?_
    simp only [go_sem, Nat.reduceEqDiff, reduceIte, Nat.reduceAdd, Nat.reduceMul, Nat.reduceLeDiff, Int.reduceLT, Int.reduceLE, Int.reduceToNat, Int.reduceAdd, Int.reduceNeg, Int.reduceEq]
    exact fr_set rfl
def cmpL (n : Int) (b now : List Ent) : List (Int × Ent) := if (validB n b && validB 1 now) = true then (mergeE b now).map chg else []
theorem cl_rows {cs ds : List V} {a b : Nat} (h1 : cs.all V.rowB = true) (h2 : ds.all V.rowB = true) : Cl [.row cs a 0 0, .row ds b 0 0] := by
  intro ob hob i hi
  simp only [List.mem_cons, List.not_mem_nil, or_false] at hob
  rcases hob with rfl | rfl
  · simp [Ob.refs, refsL_row h1] at hi
  · simp [Ob.refs, refsL_row h2] at hi
theorem split_len {d q : List (Option Ent × Option Ent)} {p : Option Ent × Option Ent} {a b : List Ent} (h : d ++ p :: q = mergeE a b) (ha : a.length ≤ 64) (hb : b.length ≤ 64) : d.length ≤ 1000 := by
  have := merge_len a b
  rw [← h] at this
  simp at this
  omega
theorem compareB_fn (z z' : Bool) (t t' : Nat) (n : Int) (b now : List Ent) (ho : okE b) (ho' : okE now) : Fn TT PT 28 [.agg [.int .i64 n, SL z t (b.map Ent.row)], SL z' t' (now.map Ent.row)] (SL true 0 ((cmpL n b now).map crow)) := by
  have hf := fits_fn z z' t t' n b now ho ho'
  refine Fn_go T28 rfl ?_
  unfold cmpL
  cases hv : (validB n b && validB 1 now)
  · rw [hv] at hf
    simp only [go_sem, Nat.reduceEqDiff, reduceIte, Nat.reduceAdd, Nat.reduceMul, Nat.reduceLeDiff, Int.reduceLT, Int.reduceLE, Int.reduceToNat, Int.reduceAdd, Int.reduceNeg, Int.reduceEq]
    refine wx_fn hf (by simp only [go_sem]) ?_
    simp only [go_sem, Nat.reduceEqDiff, reduceIte, Nat.reduceAdd, Nat.reduceMul, Nat.reduceLeDiff, Int.reduceLT, Int.reduceLE, Int.reduceToNat, Int.reduceAdd, Int.reduceNeg, Int.reduceEq]
    exact fr_set rfl
  · rw [hv] at hf
    simp only [Bool.and_eq_true] at hv
    obtain ⟨b1, b2, b3, b4, b5⟩ := valid_parts hv.1
    obtain ⟨c1, c2, c3, c4, c5⟩ := valid_parts hv.2
    obtain ⟨s', hth, hi⟩ := merge_th 57 1 okV (fun _ => okV_len) (Icmp 2 1 [.row [.int .i64 n, SL z t (b.map Ent.row)] 25 0 0]) 2 (fun d s h => ⟨h.cl, h.len⟩) z t z' t' b now
      (fun d p q s hq h p1 p2 p3 => vcmp_th (by omega) d p s (split_len hq b1 c1) h p1 p2 p3) b3 c3 [.row [.int .i64 n, SL z t (b.map Ent.row)] 25 0 0, .row [.nils] 50 0 0] rfl
      ⟨cl_rows (by simp only [go_sem]) rfl, by simp, ⟨.nils, rfl, gw_nil⟩, fun j hj => by obtain rfl : j = 0 := (by omega); rfl⟩
    obtain ⟨-, -, ⟨u, hu, hg⟩, hold⟩ := hi
    have h0 := hold 0 (by omega)
    simp only [List.getElem?_cons_zero] at h0
    simp only [go_sem, Nat.reduceEqDiff, reduceIte, Nat.reduceAdd, Nat.reduceMul, Nat.reduceLeDiff, Int.reduceLT, Int.reduceLE, Int.reduceToNat, Int.reduceAdd, Int.reduceNeg, Int.reduceEq]
    refine wx_fn hf (by simp only [go_sem]) ?_
    simp only [go_sem, Nat.reduceEqDiff, reduceIte, Nat.reduceAdd, Nat.reduceMul, Nat.reduceLeDiff, Int.reduceLT, Int.reduceLE, Int.reduceToNat, Int.reduceAdd, Int.reduceNeg, Int.reduceEq]
    refine wx_th hth ?_
    simp only [go_sem, Nat.reduceEqDiff, reduceIte, Nat.reduceAdd, Nat.reduceMul, Nat.reduceLeDiff, Int.reduceLT, Int.reduceLE, Int.reduceToNat, Int.reduceAdd, Int.reduceNeg, Int.reduceEq, hu]
    exact fr_gw hg (by omega) (crows_len _) (crows_row _)
/-! a further run -/
theorem ents_refs (l : List Ent) : refsL (l.map Ent.row).flatten = [] := refsL_row (rows_all (erows_row l))
structure Iupd (n0 ob : Nat) (n1 : Int) (base : St) (d : List (Option Ent × Option Ent)) (s : St) : Prop where
  cl : Cl s
  len : n0 ≤ s.length
  lst : ∃ u, s[ob]? = some (.row [.int .i64 n1, u] 25 0 0) ∧ GW s 4 32 (ob + 1) u ((d.filterMap upd).map Ent.row)
  old : ∀ j, j < ob → s[j]? = base[j]?
theorem iupd_none {n0 ob : Nat} {n1 : Int} {base : St} {d : List (Option Ent × Option Ent)} {s : St} (h : Iupd n0 ob n1 base d s) (hob : ob < n0) {p : Option Ent × Option Ent} (hp : upd p = none) (x : Ent) : Iupd n0 ob n1 base (d ++ [p]) (s ++ [.row x.row 32 0 0]) := by
  obtain ⟨h1, h2, ⟨u, h3, h4⟩, h5⟩ := h
  refine ⟨cl_row h1 (ent_row x), by simp; omega, ⟨u, get_app_some h3, ?_⟩, fun j hj => ?_⟩
  · rw [List.filterMap_append]
    simp only [List.filterMap_cons, hp, List.filterMap_nil, List.append_nil]
    exact gw_push h4
  · rw [List.getElem?_append_left (by omega)]
    exact h5 j hj
theorem iupd_some {n0 ob : Nat} {n1 : Int} {base : St} {d : List (Option Ent × Option Ent)} {s : St} (h : Iupd n0 ob n1 base d s) (hob : ob < n0) (hd : d.length ≤ 1000) {p : Option Ent × Option Ent} {x : Ent} (hp : upd p = some x) :
    ∃ u u' s', s[ob]? = some (.row [.int .i64 n1, u] 25 0 0) ∧ appV 48 (4, 32) u (.lst 1 [x.row]) (s ++ [.row x.row 32 0 0]) = some (u', s') ∧ s'[ob]? = some (.row [.int .i64 n1, u] 25 0 0) ∧ u'.cellB = true ∧ s.length ≤ s'.length ∧ Iupd n0 ob n1 base (d ++ [p]) (s'.set ob (.row [.int .i64 n1, u'] 25 0 0)) := by
  obtain ⟨h1, h2, ⟨u, h3, h4⟩, h5⟩ := h
  have h1' := cl_row (t := 32) h1 (ent_row x)
  have hdl : (d.filterMap upd).length ≤ d.length := List.length_filterMap_le ..
  have h4' : GW (s ++ [.row x.row 32 0 0]) 4 32 (ob + 1) u ((d.filterMap upd).map Ent.row) := gw_push h4
  obtain ⟨u', s', e1, g1, l1, -, f1⟩ := gw_app (bytes := 48) (y := .lst 1 [x.row]) (ys := [x.row]) h4' (by simp; omega) rfl (by omega) (erows_len _) (by simpa using erows_len [x]) (by simp; omega)
  simp at l1
  have hob' := (f1 ob (by omega)).trans (get_app_some (l := [.row x.row 32 0 0]) h3)
  have hc : Cl s' := gw_app_cl h4' rfl e1 (ents_refs _) (by simpa using ents_refs [x]) h1'
  refine ⟨u, u', s', h3, e1, hob', gw_cell g1, by omega, cl_set hc ?_, by simp; omega, ⟨u', by rw [List.getElem?_set_self (by omega)], ?_⟩, fun j hj => ?_⟩
  · intro i hi
    simp only [Ob.refs, refsL, V.refs, List.append_nil, List.nil_append] at hi
    exact gw_refs g1 i hi
  · have := gw_set (j := ob) (x := .row [.int .i64 n1, u'] 25 0 0) g1 (by omega)
    rw [List.filterMap_append, List.map_append]
    simp only [List.filterMap_cons, hp, List.filterMap_nil, List.map_cons, List.map_nil]
    exact this
  · rw [List.getElem?_set_ne (by omega), f1 j (by omega), List.getElem?_append_left (by omega)]
    exact h5 j hj
theorem upd_l {x : Ent} : upd (some x, none) = if x.missed + 1 < 8 then some { x.own with missed := x.missed + 1 } else none := rfl
theorem okV_num {x : Ent} (h : okV x) : 1 ≤ x.seen ∧ x.seen ≤ 1073741824 ∧ 0 ≤ x.missed ∧ x.missed ≤ 7 := by
  unfold okV entB at h
  simp only [Bool.and_eq_true] at h
  have h := h.2
  unfold numB at h
  simp only [Bool.and_eq_true, decide_eq_true_eq] at h
  exact ⟨h.1.1.1, h.1.1.2, h.1.2, h.2⟩
theorem vupd_th {n0 ob : Nat} {n1 : Int} {base : St} (hob : ob < n0) (d : List (Option Ent × Option Ent)) (p : Option Ent × Option Ent) (s : St) (hd : d.length ≤ 1000) (h : Iupd n0 ob n1 base d s) (h1 : ∀ x, p.1 = some x → okV x) (h2 : ∀ x, p.2 = some x → okV x) (h3 : p.1 ≠ none ∨ p.2 ≠ none) :
    ∃ s', Th TT PT 63 [ptrE p.1, ptrE p.2, .ptr ob 0 0] s (.tup []) s' ∧ Iupd n0 ob n1 base (d ++ [p]) s' := by
  match p, h1, h2, h3 with
  | (none, none), _, _, h3 => simp at h3
  | (none, some y), _, h2, _ =>
    have hc := bcopied_fn y (okV_ne (h2 y rfl)) (by have := entB_len (h2 y rfl); omega)
    obtain ⟨u, u', s', q1, q2, q3, q4, hlen, q5⟩ := iupd_some h hob hd (p := (none, some y)) (x := { y.own with seen := 1, missed := 0 }) rfl
    have q1' := get_app_some (l := [.row (Ent.row { y.own with seen := 1, missed := 0 }) 32 0 0]) q1
    simp only [ent_def] at hc q2 q1'
    rw [show Ent.sl ⟨y.own.kind, y.own.sites, 1, 0, y.own.z, y.own.t⟩ = y.own.sl from rfl] at q2 q1'
    refine ⟨_, Th_all T63 rfl ?_ rfl rfl (by simpa using hlen) q5.cl, q5⟩
    unfold ptrE
    simp only [go_sem, Nat.reduceEqDiff, reduceIte, Nat.reduceAdd, Nat.reduceMul, Nat.reduceLeDiff, Int.reduceLT, Int.reduceLE, Int.reduceToNat, Int.reduceAdd, Int.reduceNeg, Int.reduceEq]
    refine wx_fn hc (by simp only [go_sem]) ?_
    simp only [go_sem, Nat.reduceEqDiff, reduceIte, Nat.reduceAdd, Nat.reduceMul, Nat.reduceLeDiff, Int.reduceLT, Int.reduceLE, Int.reduceToNat, Int.reduceAdd, Int.reduceNeg, Int.reduceEq, q1', q2, q3, cells1 q4, q4]
    exact ⟨rfl, rfl⟩
  | (some x, none), h1, _, _ =>
    have hnum := okV_num (h1 x rfl)
    have hw : IntKind.i64.wrap (x.own.missed + 1) = x.own.missed + 1 := wrap64 (by show -9223372036854775808 ≤ x.missed + 1 ∧ x.missed + 1 ≤ 9223372036854775807; omega)
    cases hm : decide (x.own.missed + 1 ≤ 7)
    · have hm' : ¬ x.missed + 1 ≤ 7 := of_decide_eq_false hm
      have hc := bcopied_fn x (okV_ne (h1 x rfl)) (by have := entB_len (h1 x rfl); omega)
      have q5 := iupd_none h hob (p := (some x, none)) (by rw [upd_l, if_neg (by omega)]) { x.own with missed := x.missed + 1 }
      simp only [ent_def] at hc q5
      rw [show Ent.sl ⟨x.own.kind, x.own.sites, x.own.seen, x.missed + 1, x.own.z, x.own.t⟩ = x.own.sl from rfl] at q5
      refine ⟨_, Th_all T63 rfl ?_ rfl rfl (by simp) q5.cl, q5⟩
      unfold ptrE
      simp only [go_sem, Nat.reduceEqDiff, reduceIte, Nat.reduceAdd, Nat.reduceMul, Nat.reduceLeDiff, Int.reduceLT, Int.reduceLE, Int.reduceToNat, Int.reduceAdd, Int.reduceNeg, Int.reduceEq]
      refine wx_fn hc (by simp only [go_sem]) ?_
      simp only [go_sem, Nat.reduceEqDiff, reduceIte, Nat.reduceAdd, Nat.reduceMul, Nat.reduceLeDiff, Int.reduceLT, Int.reduceLE, Int.reduceToNat, Int.reduceAdd, Int.reduceNeg, Int.reduceEq, hw, hm]
      exact ⟨rfl, rfl⟩
    · have hm' : x.missed + 1 ≤ 7 := of_decide_eq_true hm
      have hc := bcopied_fn x (okV_ne (h1 x rfl)) (by have := entB_len (h1 x rfl); omega)
      obtain ⟨u, u', s', q1, q2, q3, q4, hlen, q5⟩ := iupd_some h hob hd (p := (some x, none)) (x := { x.own with seen := x.own.seen, missed := x.own.missed + 1 }) (by rw [upd_l, if_pos (by omega)]; rfl)
      have q1' := get_app_some (l := [.row (Ent.row { x.own with seen := x.own.seen, missed := x.own.missed + 1 }) 32 0 0]) q1
      simp only [ent_def] at hc q2 q1'
      rw [show Ent.sl ⟨x.own.kind, x.own.sites, x.own.seen, x.own.missed + 1, x.own.z, x.own.t⟩ = x.own.sl from rfl] at q2 q1'
      refine ⟨_, Th_all T63 rfl ?_ rfl rfl (by simpa using hlen) q5.cl, q5⟩
      unfold ptrE
      simp only [go_sem, Nat.reduceEqDiff, reduceIte, Nat.reduceAdd, Nat.reduceMul, Nat.reduceLeDiff, Int.reduceLT, Int.reduceLE, Int.reduceToNat, Int.reduceAdd, Int.reduceNeg, Int.reduceEq]
      refine wx_fn hc (by simp only [go_sem]) ?_
      simp only [go_sem, Nat.reduceEqDiff, reduceIte, Nat.reduceAdd, Nat.reduceMul, Nat.reduceLeDiff, Int.reduceLT, Int.reduceLE, Int.reduceToNat, Int.reduceAdd, Int.reduceNeg, Int.reduceEq, hw, hm, q1', q2, q3, cells1 q4, q4]
      exact ⟨rfl, rfl⟩
  | (some x, some y), h1, _, _ =>
    have hnum := okV_num (h1 x rfl)
    have hw : IntKind.i64.wrap (x.own.seen + 1) = x.own.seen + 1 := wrap64 (by show -9223372036854775808 ≤ x.seen + 1 ∧ x.seen + 1 ≤ 9223372036854775807; omega)
    have hc := bcopied_fn x (okV_ne (h1 x rfl)) (by have := entB_len (h1 x rfl); omega)
    obtain ⟨u, u', s', q1, q2, q3, q4, hlen, q5⟩ := iupd_some h hob hd (p := (some x, some y)) (x := { x.own with seen := min (x.own.seen + 1) 1073741824, missed := 0 }) rfl
    have q1' := get_app_some (l := [.row (Ent.row { x.own with seen := min (x.own.seen + 1) 1073741824, missed := 0 }) 32 0 0]) q1
    simp only [ent_def] at hc q2 q1'
    rw [show Ent.sl ⟨x.own.kind, x.own.sites, min (x.own.seen + 1) 1073741824, 0, x.own.z, x.own.t⟩ = x.own.sl from rfl] at q2 q1'
    refine ⟨_, Th_all T63 rfl ?_ rfl rfl (by simpa using hlen) q5.cl, q5⟩
    unfold ptrE
    simp only [go_sem, Nat.reduceEqDiff, reduceIte, Nat.reduceAdd, Nat.reduceMul, Nat.reduceLeDiff, Int.reduceLT, Int.reduceLE, Int.reduceToNat, Int.reduceAdd, Int.reduceNeg, Int.reduceEq]
    refine wx_fn hc (by simp only [go_sem]) ?_
    simp only [go_sem, Nat.reduceEqDiff, reduceIte, Nat.reduceAdd, Nat.reduceMul, Nat.reduceLeDiff, Int.reduceLT, Int.reduceLE, Int.reduceToNat, Int.reduceAdd, Int.reduceNeg, Int.reduceEq, hw, q1', q2, q3, cells1 q4, q4]
    exact ⟨rfl, rfl⟩
theorem fr_tup_sl {σ : St} {m e i g : Nat} {xs : List (List V)} {pre post : List V} {w : V} (ho : σ[i]? = some (.row xs.flatten e g 0)) (hm : 0 < m) (hl : ∀ r ∈ xs, r.length = m) (hr : ∀ r ∈ xs, r.all V.rowB = true) (h1 : pre.all V.rowB = true) (h2 : post.all V.rowB = true) (hw : w.rowB = true) :
    FR (.tup [.agg (pre ++ .sl i g 0 xs.length m true :: post), w]) σ (.tup [.agg (pre ++ .lst 0 xs :: post), w]) := by
  obtain ⟨hi, ho'⟩ := List.getElem?_eq_some_iff.1 ho
  have hx : refsL xs.flatten = [] := refsL_row (rows_all hr)
  have hrefs : refsL (pre ++ V.sl i g 0 xs.length m true :: post) = [i] := by
    rw [refs_app, refsL_row h1]
    simp only [refsL, refsL_row h2, V.refs, List.nil_append, List.append_nil]
  have h0 : ren 0 [i] i = 0 := by simp [ren, List.findIdx_cons]
  have hwr : w.refs = [] := rowB_refs hw
  have hwc : okRes1 w = true := by cases w <;> simp [V.rowB] at hw <;> rfl
  have hwn : w.ren (ren 0 [i]) = w := ren_same _ w (by rw [hwr]; simp)
  refine .inr ⟨[i], ?_, ?_⟩
  · simp only [leaveSome, okRes, okRes1, V.refs, refsL, hrefs, hwr, List.all_append, List.all_cons, List.all_nil, cb_row h1, cb_row h2, V.cellB, hwc, List.append_nil]
    simp [within, ho', Ob.refs, hx, hi]
    cases w <;> simp [V.rowB] at hw <;> rfl
  · simp only [List.filterMap_cons, ho, List.filterMap_nil, List.map_cons, List.map_nil, Ob.ren, rn_row i _ (rows_all hr), V.ren, rn_app, rn_row i _ h1, renL, rn_row i _ h2, h0, hwn, back, settleV]
    have ha : OV [Ob.row xs.flatten e g 0] (.agg (pre ++ V.sl 0 g 0 xs.length m true :: post)) (.agg (pre ++ .lst 0 xs :: post)) := ov_agg (ocs_app (ocs_row h1) (.cons (oc_sl (i := 0) (g := g) (e := e) (z := 0) (w := true) rfl hm hl hr) (ocs_row h2)))
    have hww : OV [Ob.row xs.flatten e g 0] w w := ov_set (by cases w <;> simp [V.rowB] at hw <;> rfl)
    exact congrArg (Option.map V.tup) (ovs_map (.cons ha (.cons hww .nil)) fun j hj => cloL_sub _ _ _ _ (List.mem_eraseDups.2 hj))
theorem fr_tup_gw {σ : St} {m e lo : Nat} {u w : V} {xs : List (List V)} {pre post : List V} (h : GW σ m e lo u xs) (hm : 0 < m) (hl : ∀ r ∈ xs, r.length = m) (hr : ∀ r ∈ xs, r.all V.rowB = true) (h1 : pre.all V.rowB = true) (h2 : post.all V.rowB = true) (hw : w.rowB = true) :
    FR (.tup [.agg (pre ++ u :: post), w]) σ (.tup [.agg (pre ++ SL true 0 xs :: post), w]) := by
  rcases h with ⟨rfl, rfl⟩ | ⟨hn, i, g, rfl, ho, hlo⟩
  · refine fr_tup ?_
    simp only [List.all_cons, List.all_nil, setC, List.all_append, h1, h2, Bool.and_true, Bool.true_and]
    cases w <;> simp [V.rowB] at hw <;> rfl
  · rw [sl_ne hn]; exact fr_tup_sl ho hm hl hr h1 h2 hw
theorem gw_len {σ : St} {m e lo : Nat} {u : V} {xs : List (List V)} (h : GW σ m e lo u xs) : lenV u = some (.int .i64 (xs.length : Int)) := by
  rcases h with ⟨rfl, rfl⟩ | ⟨hn, i, g, rfl, ho, hlo⟩ <;> rfl
def updRes (n : Int) (b now : List Ent) : Int × List Ent × Int :=
  if (validB n b && validB 1 now) = true then (if n = 1073741824 ∨ 64 < (updL b now).length then (0, [], 2) else (n + 1, updL b now, 0)) else (0, [], 1)
def baseV (n : Int) (l : List Ent) : V := .agg [.int .i64 n, SL true 0 (l.map Ent.row)]
theorem updateB_fn (z z' : Bool) (t t' : Nat) (n : Int) (b now : List Ent) (ho : okE b) (ho' : okE now) : Fn TT PT 30 [.agg [.int .i64 n, SL z t (b.map Ent.row)], SL z' t' (now.map Ent.row)] (.tup [baseV (updRes n b now).1 (updRes n b now).2.1, .int .i64 (updRes n b now).2.2]) := by
  have hf := fits_fn z z' t t' n b now ho ho'
  refine Fn_go T30 rfl ?_
  unfold updRes baseV
  cases hv : (validB n b && validB 1 now)
  · rw [hv] at hf
    simp only [go_sem, Nat.reduceEqDiff, reduceIte, Nat.reduceAdd, Nat.reduceMul, Nat.reduceLeDiff, Int.reduceLT, Int.reduceLE, Int.reduceToNat, Int.reduceAdd, Int.reduceNeg, Int.reduceEq]
    refine wx_fn hf (by simp only [go_sem]) ?_
    simp only [go_sem, Nat.reduceEqDiff, reduceIte, Nat.reduceAdd, Nat.reduceMul, Nat.reduceLeDiff, Int.reduceLT, Int.reduceLE, Int.reduceToNat, Int.reduceAdd, Int.reduceNeg, Int.reduceEq]
    exact fr_tup rfl
  · rw [hv] at hf
    simp only [Bool.and_eq_true] at hv
    obtain ⟨b1, b2, b3, b4, b5⟩ := valid_parts hv.1
    obtain ⟨c1, c2, c3, c4, c5⟩ := valid_parts hv.2
    have hw : IntKind.i64.wrap (n + 1) = n + 1 := wrap64 (by omega)
    obtain ⟨s', hth, hi⟩ := merge_th 63 2 okV (fun _ => okV_len) (Iupd 3 2 (n + 1) [.row [.int .i64 n, SL z t (b.map Ent.row)] 25 0 0, .row [.int .i64 0, .nils] 25 0 0]) 3 (fun d s h => ⟨h.cl, h.len⟩) z t z' t' b now
      (fun d p q s hq h p1 p2 p3 => vupd_th (by omega) d p s (split_len hq b1 c1) h p1 p2 p3) b3 c3 [.row [.int .i64 n, SL z t (b.map Ent.row)] 25 0 0, .row [.int .i64 0, .nils] 25 0 0, .row [.int .i64 (n + 1), .nils] 25 0 0] rfl
      ⟨cl_push (cl_rows (by simp only [go_sem]) rfl) (by simp [Ob.refs, refsL, V.refs]), by simp, ⟨.nils, rfl, gw_nil⟩, fun j hj => by
        match j, hj with
        | 0, _ => rfl
        | 1, _ => rfl⟩
    obtain ⟨-, hl3, ⟨u, hu, hg⟩, hold⟩ := hi
    have h0 := hold 0 (by omega)
    have h1 := hold 1 (by omega)
    have hst : ∀ X : Ob, (s'.set 1 X)[1]? = some X := fun X => List.getElem?_set_self (by omega)
    have hst2 : ∀ X : Ob, (s'.set 1 X)[2]? = s'[2]? := fun X => List.getElem?_set_ne (by omega)
    have hlu : lenV u = some (.int .i64 ((updL b now).length : Int)) := by
      have := gw_len hg
      rw [List.length_map] at this
      exact this
    have huc := gw_cell hg
    simp only [List.getElem?_cons_zero, List.getElem?_cons_succ] at h0 h1
    cases hn : (n == 1073741824)
    · have hn' : ¬ n = 1073741824 := by simpa using hn
      cases hm : decide ((64 : Int) < ((updL b now).length : Int))
      · have hm' : ¬ (n = 1073741824 ∨ 64 < (updL b now).length) := by simp at hm; omega
        simp only [go_sem, Nat.reduceEqDiff, reduceIte, Nat.reduceAdd, Nat.reduceMul, Nat.reduceLeDiff, Int.reduceLT, Int.reduceLE, Int.reduceToNat, Int.reduceAdd, Int.reduceNeg, Int.reduceEq]
        refine wx_fn hf (by simp only [go_sem]) ?_
        simp only [go_sem, Nat.reduceEqDiff, reduceIte, Nat.reduceAdd, Nat.reduceMul, Nat.reduceLeDiff, Int.reduceLT, Int.reduceLE, Int.reduceToNat, Int.reduceAdd, Int.reduceNeg, Int.reduceEq, hw]
        refine wx_th hth ?_
        simp only [go_sem, Nat.reduceEqDiff, reduceIte, Nat.reduceAdd, Nat.reduceMul, Nat.reduceLeDiff, Int.reduceLT, Int.reduceLE, Int.reduceToNat, Int.reduceAdd, Int.reduceNeg, Int.reduceEq, h0, h1, hu, hn, hlu, hm, cells1 huc, huc, hst, hst2]
        rw [if_neg hm']
        exact fr_tup_gw (pre := [.int .i64 (n + 1)]) (post := []) (gw_set (j := 1) hg (by omega)) (by omega) (erows_len _) (erows_row _) rfl rfl rfl
      · have hm' : n = 1073741824 ∨ 64 < (updL b now).length := by simp at hm; omega
        simp only [go_sem, Nat.reduceEqDiff, reduceIte, Nat.reduceAdd, Nat.reduceMul, Nat.reduceLeDiff, Int.reduceLT, Int.reduceLE, Int.reduceToNat, Int.reduceAdd, Int.reduceNeg, Int.reduceEq]
        refine wx_fn hf (by simp only [go_sem]) ?_
        simp only [go_sem, Nat.reduceEqDiff, reduceIte, Nat.reduceAdd, Nat.reduceMul, Nat.reduceLeDiff, Int.reduceLT, Int.reduceLE, Int.reduceToNat, Int.reduceAdd, Int.reduceNeg, Int.reduceEq, hw]
        refine wx_th hth ?_
        simp only [go_sem, Nat.reduceEqDiff, reduceIte, Nat.reduceAdd, Nat.reduceMul, Nat.reduceLeDiff, Int.reduceLT, Int.reduceLE, Int.reduceToNat, Int.reduceAdd, Int.reduceNeg, Int.reduceEq, h0, h1, hu, hn, hlu, hm, hst, hst2]
        rw [if_pos hm']
        exact fr_tup rfl
    · have hm' : n = 1073741824 ∨ 64 < (updL b now).length := .inl (by simpa using hn)
      simp only [go_sem, Nat.reduceEqDiff, reduceIte, Nat.reduceAdd, Nat.reduceMul, Nat.reduceLeDiff, Int.reduceLT, Int.reduceLE, Int.reduceToNat, Int.reduceAdd, Int.reduceNeg, Int.reduceEq]
      refine wx_fn hf (by simp only [go_sem]) ?_
      simp only [go_sem, Nat.reduceEqDiff, reduceIte, Nat.reduceAdd, Nat.reduceMul, Nat.reduceLeDiff, Int.reduceLT, Int.reduceLE, Int.reduceToNat, Int.reduceAdd, Int.reduceNeg, Int.reduceEq, hw]
      refine wx_th hth ?_
      simp only [go_sem, Nat.reduceEqDiff, reduceIte, Nat.reduceAdd, Nat.reduceMul, Nat.reduceLeDiff, Int.reduceLT, Int.reduceLE, Int.reduceToNat, Int.reduceAdd, Int.reduceNeg, Int.reduceEq, h0, h1, hu, hn, hst, hst2]
      rw [if_pos hm']
      exact fr_tup rfl
end Go.Proofs.YticpkkjnajmpoaaGreatDoor.KM
