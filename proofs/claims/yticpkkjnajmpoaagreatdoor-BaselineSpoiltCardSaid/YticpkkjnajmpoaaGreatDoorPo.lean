/- Walks: Compare and Update of baselines, whole. -/
import Derived.Test.YticpkkjnajmpoaaGreatDoorPl
set_option linter.all false
namespace Go.Proofs.YticpkkjnajmpoaaGreatDoor.KM
open Go
theorem valid_parts {n : Int} {l : List Ent} (h : validB n l = true) : l.length ≤ 64 ∧ Asc l ∧ (∀ x ∈ l, okV x) ∧ 0 ≤ n ∧ n ≤ 1073741824 := by
  unfold validB at h
  simp only [Bool.and_eq_true, decide_eq_true_eq] at h
  exact ⟨h.1.2, validL_asc h.2, validL_ent h.2, h.1.1.1, h.1.1.2⟩
theorem fits_fn (z z' : Bool) (t t' : Nat) (n : Int) (l m : List Ent) (ho : okE l) (ho' : okE m) : Fn TT PT 55 [.agg [.int .i64 n, SL z t (l.map Ent.row)], SL z' t' (m.map Ent.row)] (.bool (validB n l && validB 1 m)) := by
  have h1 := valid_fn z t n l ho
  have h2 := valid_fn z' t' 1 m ho'
  refine Fn_go T55 rfl ?_
  cases hv : validB n l
  · rw [hv] at h1
    simp only [go_sem, Nat.reduceEqDiff, reduceIte, Nat.reduceAdd, Nat.reduceMul, Nat.reduceLeDiff, Int.reduceLT, Int.reduceLE, Int.reduceToNat, Int.reduceAdd, Int.reduceNeg, Int.reduceEq]
    refine wx_fn h1 (by simp only [go_sem]) ?_
    simp only [go_sem, Nat.reduceEqDiff, reduceIte, Nat.reduceAdd, Nat.reduceMul, Nat.reduceLeDiff, Int.reduceLT, Int.reduceLE, Int.reduceToNat, Int.reduceAdd, Int.reduceNeg, Int.reduceEq]
    exact fr_set rfl
  · rw [hv] at h1
    simp only [go_sem, Nat.reduceEqDiff, reduceIte, Nat.reduceAdd, Nat.reduceMul, Nat.reduceLeDiff, Int.reduceLT, Int.reduceLE, Int.reduceToNat, Int.reduceAdd, Int.reduceNeg, Int.reduceEq]
    refine wx_fn h1 (by simp only [go_sem]) ?_
    simp only [go_sem, Nat.reduceEqDiff, reduceIte, Nat.reduceAdd, Nat.reduceMul, Nat.reduceLeDiff, Int.reduceLT, Int.reduceLE, Int.reduceToNat, Int.reduceAdd, Int.reduceNeg, Int.reduceEq]
    refine wx_fn h2 (by simp only [go_sem]) ?_
    simp only [go_sem, Nat.reduceEqDiff, reduceIte, Nat.reduceAdd, Nat.reduceMul, Nat.reduceLeDiff, Int.reduceLT, Int.reduceLE, Int.reduceToNat, Int.reduceAdd, Int.reduceNeg, Int.reduceEq]
    exact fr_set rfl
theorem cl_rows {cs ds : List V} {a b : Nat} (h1 : cs.all V.rowB = true) (h2 : ds.all V.rowB = true) : Cl [.row cs a 0 0, .row ds b 0 0] := by
  intro ob hob i hi
  simp only [List.mem_cons, List.not_mem_nil, or_false] at hob
  rcases hob with rfl | rfl
  · simp [Ob.refs, refsL_row h1] at hi
  · simp [Ob.refs, refsL_row h2] at hi
theorem split_len {d q : List (Option Ent × Option Ent)} {p : Option Ent × Option Ent} {a b : List Ent} (h : d ++ p :: q = mergeE a b) (ha : a.length ≤ 64) (hb : b.length ≤ 64) : d.length ≤ 1000 := by
  have := merge_len a b
  rw [← h] at this
  simp at this
  omega
/-! a further run -/
theorem ents_refs (l : List Ent) : refsL (l.map Ent.row).flatten = [] := refsL_row (rows_all (erows_row l))
theorem upd_l {x : Ent} : upd (some x, none) = if x.missed + 1 < 8 then some { x.own with missed := x.missed + 1 } else none := rfl
theorem okV_num {x : Ent} (h : okV x) : 1 ≤ x.seen ∧ x.seen ≤ 1073741824 ∧ 0 ≤ x.missed ∧ x.missed ≤ 7 := by
  unfold okV entB at h
  simp only [Bool.and_eq_true] at h
  have h := h.2
  unfold numB at h
  simp only [Bool.and_eq_true, decide_eq_true_eq] at h
  exact ⟨h.1.1.1, h.1.1.2, h.1.2, h.2⟩
theorem fr_tup_sl {σ : St} {m e i g : Nat} {xs : List (List V)} {pre post : List V} {w : V} (ho : σ[i]? = some (.row xs.flatten e g 0)) (hm : 0 < m) (hl : ∀ r ∈ xs, r.length = m) (hr : ∀ r ∈ xs, r.all V.rowB = true) (h1 : pre.all V.rowB = true) (h2 : post.all V.rowB = true) (hw : w.rowB = true) :
    FR (.tup [.agg (pre ++ .sl i g 0 xs.length m true :: post), w]) σ (.tup [.agg (pre ++ .lst 0 xs :: post), w]) := by
  obtain ⟨hi, ho'⟩ := List.getElem?_eq_some_iff.1 ho
  have hx : refsL xs.flatten = [] := refsL_row (rows_all hr)
  have hrefs : refsL (pre ++ V.sl i g 0 xs.length m true :: post) = [i] := by
    rw [refs_app, refsL_row h1]
    simp only [refsL, refsL_row h2, V.refs, List.nil_append, List.append_nil]
  have h0 : ren 0 [i] i = 0 := by simp [ren, List.findIdx_cons]
  have hwr : w.refs = [] := rowB_refs hw
  have hwc : okRes1 w = true := by cases w <;> simp [V.rowB] at hw <;> rfl
  have hwn : w.ren (ren 0 [i]) = w := ren_same _ w (by rw [hwr]; simp)
  refine .inr ⟨[i], ?_, ?_⟩
  · simp only [leaveSome, okRes, okRes1, V.refs, refsL, hrefs, hwr, List.all_append, List.all_cons, List.all_nil, cb_row h1, cb_row h2, V.cellB, hwc, List.append_nil]
    simp [within, ho', Ob.refs, hx, hi]
    cases w <;> simp [V.rowB] at hw <;> rfl
  · simp only [List.filterMap_cons, ho, List.filterMap_nil, List.map_cons, List.map_nil, Ob.ren, rn_row i _ (rows_all hr), V.ren, rn_app, rn_row i _ h1, renL, rn_row i _ h2, h0, hwn, back, settleV]
    have ha : OV [Ob.row xs.flatten e g 0] (.agg (pre ++ V.sl 0 g 0 xs.length m true :: post)) (.agg (pre ++ .lst 0 xs :: post)) := ov_agg (ocs_app (ocs_row h1) (.cons (oc_sl (i := 0) (g := g) (e := e) (z := 0) (w := true) rfl hm hl hr) (ocs_row h2)))
    have hww : OV [Ob.row xs.flatten e g 0] w w := ov_set (by cases w <;> simp [V.rowB] at hw <;> rfl)
    exact congrArg (Option.map V.tup) (ovs_map (.cons ha (.cons hww .nil)) fun j hj => cloL_sub _ _ _ _ (List.mem_eraseDups.2 hj))
theorem fr_tup_gw {σ : St} {m e lo : Nat} {u w : V} {xs : List (List V)} {pre post : List V} (h : GW σ m e lo u xs) (hm : 0 < m) (hl : ∀ r ∈ xs, r.length = m) (hr : ∀ r ∈ xs, r.all V.rowB = true) (h1 : pre.all V.rowB = true) (h2 : post.all V.rowB = true) (hw : w.rowB = true) :
    FR (.tup [.agg (pre ++ u :: post), w]) σ (.tup [.agg (pre ++ SL true 0 xs :: post), w]) := by
  rcases h with ⟨rfl, rfl⟩ | ⟨hn, i, g, rfl, ho, hlo⟩
  · refine fr_tup ?_
    simp only [List.all_cons, List.all_nil, setC, List.all_append, h1, h2, Bool.and_true, Bool.true_and]
    cases w <;> simp [V.rowB] at hw <;> rfl
  · rw [sl_ne hn]; exact fr_tup_sl ho hm hl hr h1 h2 hw
theorem gw_len {σ : St} {m e lo : Nat} {u : V} {xs : List (List V)} (h : GW σ m e lo u xs) : lenV u = some (.int .i64 (xs.length : Int)) := by
  rcases h with ⟨rfl, rfl⟩ | ⟨hn, i, g, rfl, ho, hlo⟩ <;> rfl
def updRes (n : Int) (b now : List Ent) : Int × List Ent × Int :=
  if (validB n b && validB 1 now) = true then (if n = 1073741824 ∨ 64 < (updL b now).length then (0, [], 2) else (n + 1, updL b now, 0)) else (0, [], 1)
def baseV (n : Int) (l : List Ent) : V := .agg [.int .i64 n, SL true 0 (l.map Ent.row)]
end Go.Proofs.YticpkkjnajmpoaaGreatDoor.KM
