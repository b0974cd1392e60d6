/- Walks: the reference's Update; the law BaselineFull. -/
import Derived.Test.YticpkkjnajmpoaaGreatDoorPt
set_option linter.all false
namespace Go.Proofs.YticpkkjnajmpoaaGreatDoor.KM
open Go
theorem upd1_row (now : List Ent) (x : Ent) : upd1 now x = if thereE x now then some { x.own with seen := min (x.seen + 1) 1073741824, missed := 0 } else if x.missed + 1 < 8 then some { x.own with missed := x.missed + 1 } else none := rfl
/-- the first pass: what is in the baseline -/
theorem rupd_loop1 (n1 : Int) (R0 R1 : Ob) (z z' : Bool) (t t' : Nat) (b now : List Ent) (hb : ∀ x ∈ b, okV x) (hn : ∀ x ∈ now, okV x) (hbl : b.length ≤ 64) (hnl : now.length ≤ 64) (k : List It) (Q : Env → St → Prop)
    (h : ∀ s u, s[0]? = some R0 → s[1]? = some R1 → s[2]? = some (.row [.int .i64 n1, u] 25 0 0) → 3 ≤ s.length → GW s 4 32 3 u ((b.filterMap (upd1 now)).map Ent.row) → W TT PT k [(1, SL z' t' (now.map Ent.row)), (4, .ptr 1 0 0), (6, .ptr 2 0 0), (29, SL z t (b.map Ent.row)), (30, .int .i64 b.length), (31, .int .i64 b.length)] s Q) :
    W TT PT (.l [1, 4, 6, 29, 30, 31] lp31_0 :: .b 0 :: k) [(1, SL z' t' (now.map Ent.row)), (4, .ptr 1 0 0), (6, .ptr 2 0 0), (29, SL z t (b.map Ent.row)), (30, .int .i64 b.length), (31, .int .i64 0)] [R0, R1, .row [.int .i64 n1, .nils] 25 0 0] Q := by
  refine loop_w (α := Nat × V × St) (fun a => b.length - a.1) (fun a => [(1, SL z' t' (now.map Ent.row)), (4, .ptr 1 0 0), (6, .ptr 2 0 0), (29, SL z t (b.map Ent.row)), (30, .int .i64 b.length), (31, .int .i64 a.1)]) (fun a => a.2.2)
    (fun a => a.1 ≤ b.length ∧ a.2.2[0]? = some R0 ∧ a.2.2[1]? = some R1 ∧ a.2.2[2]? = some (.row [.int .i64 n1, a.2.1] 25 0 0) ∧ 3 ≤ a.2.2.length ∧ GW a.2.2 4 32 3 a.2.1 (((b.take a.1).filterMap (upd1 now)).map Ent.row)) ?_ (0, .nils, [R0, R1, .row [.int .i64 n1, .nils] 25 0 0]) ⟨by simp, rfl, rfl, rfl, by simp, gw_nil⟩
  rintro ⟨i, u, s⟩ ⟨hi, h0, h1, h2, h3, hg⟩ ih
  simp only at hi h0 h1 h2 h3 hg ih
  refine w_rep (by delta lp31_0; exact rfl) ?_
  rcases Nat.lt_or_ge i b.length with hlt | hge
  · obtain ⟨x, hx, -, hm⟩ := at_some hlt
    have hxv := hb x hm
    have hxl := entB_len hxv
    have hxn := okV_num hxv
    have hc := copied_fn x (by omega)
    have hp := place_fn z' t' now x.own (by omega) (okE_of hn) (by show x.sites.length ≤ _; omega)
    rw [placeE_own, thereE_own] at hp
    have htk : b.take (i + 1) = b.take i ++ [x] := by rw [List.take_add_one, hx]; rfl
    simp only [ent_def] at hc hp
    have g0 : ∀ X : Ob, (s ++ [X])[2]? = some (.row [.int .i64 n1, u] 25 0 0) := fun X => get_app_some h2
    -- what is kept
    have keep : ∀ (y : Ent), upd1 now x = some y → ∃ u' s', appV 48 (4, 32) u (.lst 1 [y.row]) (s ++ [.row y.row 32 0 0]) = some (u', s') ∧ s'[2]? = some (.row [.int .i64 n1, u] 25 0 0) ∧ u'.cellB = true ∧
        W TT PT (.l [1, 4, 6, 29, 30, 31] lp31_0 :: .b 0 :: k) [(1, SL z' t' (now.map Ent.row)), (4, .ptr 1 0 0), (6, .ptr 2 0 0), (29, SL z t (b.map Ent.row)), (30, .int .i64 b.length), (31, .int .i64 ((i + 1 : Nat) : Int))] (s'.set 2 (.row [.int .i64 n1, u'] 25 0 0)) Q := by
      intro y hy
      have hl := List.length_filterMap_le (upd1 now) (b.take i)
      simp at hl
      have hg' : GW (s ++ [.row y.row 32 0 0]) 4 32 3 u (((b.take i).filterMap (upd1 now)).map Ent.row) := gw_push hg
      obtain ⟨u', s', e1, g1, l1, -, f1⟩ := gw_app (bytes := 48) (y := .lst 1 [y.row]) (ys := [y.row]) hg' (by simp; omega) rfl (by omega) (erows_len _) (by simpa using erows_len [y]) (by simp; omega)
      simp at l1
      have old : ∀ j, j < 3 → s'[j]? = s[j]? := fun j hj => (f1 j hj).trans (List.getElem?_append_left (by omega))
      refine ⟨u', s', e1, (old 2 (by omega)).trans h2, gw_cell g1, ih (i + 1, u', s'.set 2 (.row [.int .i64 n1, u'] 25 0 0)) (by simp; omega) ⟨by simp; omega, ?_, ?_, ?_, by simp; omega, ?_⟩⟩
      · rw [List.getElem?_set_ne (by omega), old 0 (by omega)]; exact h0
      · rw [List.getElem?_set_ne (by omega), old 1 (by omega)]; exact h1
      · rw [List.getElem?_set_self (by omega)]
      · have := gw_set (j := 2) (x := .row [.int .i64 n1, u'] 25 0 0) g1 (by omega)
        simp only [htk, List.filterMap_append, List.filterMap_cons, hy, List.filterMap_nil, List.map_append, List.map_cons, List.map_nil]
        exact this
    cases ht : thereE x now
    · rw [ht] at hp
      have hw : IntKind.i64.wrap (x.own.missed + 1) = x.own.missed + 1 := wrap64 (by show -9223372036854775808 ≤ x.missed + 1 ∧ x.missed + 1 ≤ 9223372036854775807; omega)
      cases hm8 : decide (x.own.missed + 1 < 8)
      · have hm' : ¬ x.missed + 1 < 8 := of_decide_eq_false hm8
        simp only [go_sem, Nat.reduceEqDiff, reduceIte, Nat.reduceAdd, Nat.reduceMul, Nat.reduceLeDiff, Int.reduceLT, Int.reduceLE, Int.reduceToNat, Int.reduceAdd, Int.reduceNeg, Int.reduceEq, lt_t hlt, List.getElem?_map, hx]
        refine wx_fn hc (by simp only [go_sem]) ?_
        simp only [go_sem, Nat.reduceEqDiff, reduceIte, Nat.reduceAdd, Nat.reduceMul, Nat.reduceLeDiff, Int.reduceLT, Int.reduceLE, Int.reduceToNat, Int.reduceAdd, Int.reduceNeg, Int.reduceEq]
        refine wx_fn hp (by simp only [go_sem]) ?_
        simp only [go_sem, Nat.reduceEqDiff, reduceIte, Nat.reduceAdd, Nat.reduceMul, Nat.reduceLeDiff, Int.reduceLT, Int.reduceLE, Int.reduceToNat, Int.reduceAdd, Int.reduceNeg, Int.reduceEq, hw, hm8, inc64 (show i < 9223372036854775807 by omega)]
        refine W_keep (ih (i + 1, u, _) (by simp; omega) ⟨by simp; omega, get_app_some h0, get_app_some h1, get_app_some h2, by simp; omega, ?_⟩) rfl
        simp only [htk, List.filterMap_append, List.filterMap_cons, upd1_row, ht, Bool.false_eq_true, if_false, if_neg hm', List.filterMap_nil, List.append_nil]
        exact gw_push hg
      · have hm' : x.missed + 1 < 8 := of_decide_eq_true hm8
        obtain ⟨u', s', e1, e2, e3, e4⟩ := keep { x.own with missed := x.own.missed + 1 } (by rw [upd1_row, ht, if_neg (by simp), if_pos hm']; rfl)
        simp only [ent_def] at e1
        rw [show Ent.sl ⟨x.own.kind, x.own.sites, x.own.seen, x.own.missed + 1, x.own.z, x.own.t⟩ = x.own.sl from rfl] at e1
        simp only [go_sem, Nat.reduceEqDiff, reduceIte, Nat.reduceAdd, Nat.reduceMul, Nat.reduceLeDiff, Int.reduceLT, Int.reduceLE, Int.reduceToNat, Int.reduceAdd, Int.reduceNeg, Int.reduceEq, lt_t hlt, List.getElem?_map, hx]
        refine wx_fn hc (by simp only [go_sem]) ?_
        simp only [go_sem, Nat.reduceEqDiff, reduceIte, Nat.reduceAdd, Nat.reduceMul, Nat.reduceLeDiff, Int.reduceLT, Int.reduceLE, Int.reduceToNat, Int.reduceAdd, Int.reduceNeg, Int.reduceEq]
        refine wx_fn hp (by simp only [go_sem]) ?_
        simp only [go_sem, Nat.reduceEqDiff, reduceIte, Nat.reduceAdd, Nat.reduceMul, Nat.reduceLeDiff, Int.reduceLT, Int.reduceLE, Int.reduceToNat, Int.reduceAdd, Int.reduceNeg, Int.reduceEq, hw, hm8, g0, e1, e2, cells1 e3, e3, inc64 (show i < 9223372036854775807 by omega)]
        exact W_keep e4 rfl
    · rw [ht] at hp
      have hw : IntKind.i64.wrap (x.own.seen + 1) = x.own.seen + 1 := wrap64 (by show -9223372036854775808 ≤ x.seen + 1 ∧ x.seen + 1 ≤ 9223372036854775807; omega)
      obtain ⟨u', s', e1, e2, e3, e4⟩ := keep { x.own with seen := min (x.own.seen + 1) 1073741824, missed := 0 } (by rw [upd1_row, ht, if_pos rfl]; rfl)
      simp only [ent_def] at e1
      rw [show Ent.sl ⟨x.own.kind, x.own.sites, min (x.own.seen + 1) 1073741824, 0, x.own.z, x.own.t⟩ = x.own.sl from rfl] at e1
      simp only [go_sem, Nat.reduceEqDiff, reduceIte, Nat.reduceAdd, Nat.reduceMul, Nat.reduceLeDiff, Int.reduceLT, Int.reduceLE, Int.reduceToNat, Int.reduceAdd, Int.reduceNeg, Int.reduceEq, lt_t hlt, List.getElem?_map, hx]
      refine wx_fn hc (by simp only [go_sem]) ?_
      simp only [go_sem, Nat.reduceEqDiff, reduceIte, Nat.reduceAdd, Nat.reduceMul, Nat.reduceLeDiff, Int.reduceLT, Int.reduceLE, Int.reduceToNat, Int.reduceAdd, Int.reduceNeg, Int.reduceEq]
      refine wx_fn hp (by simp only [go_sem]) ?_
      simp only [go_sem, Nat.reduceEqDiff, reduceIte, Nat.reduceAdd, Nat.reduceMul, Nat.reduceLeDiff, Int.reduceLT, Int.reduceLE, Int.reduceToNat, Int.reduceAdd, Int.reduceNeg, Int.reduceEq, hw, g0, e1, e2, cells1 e3, e3, inc64 (show i < 9223372036854775807 by omega)]
      exact W_keep e4 rfl
  · obtain rfl : i = b.length := by omega
    rw [List.take_length] at hg
    simp only [go_sem, Nat.reduceEqDiff, reduceIte, Nat.reduceAdd, Nat.reduceMul, Nat.reduceLeDiff, Int.reduceLT, Int.reduceLE, Int.reduceToNat, Int.reduceAdd, Int.reduceNeg, Int.reduceEq, lt_f hge]
    exact h s u h0 h1 h2 h3 hg
/-! the second pass: what is new -/
theorem placeE_new (e : Ent) : ∀ l, placeE (new1 e) l = placeE e l
  | [] => rfl
  | x :: r => by simp only [placeE, placeE_new e r]; rfl
theorem thereE_new (e : Ent) (l : List Ent) : thereE (new1 e) l = thereE e l := by
  unfold thereE
  rw [placeE_new]
  rfl
def newL (L0 now : List Ent) (i : Nat) : List Ent := (now.take i).foldl (fun s e => insE (new1 e) s) L0
theorem newL_more {L0 now : List Ent} {i : Nat} {x : Ent} (h : now[i]? = some x) : newL L0 now (i + 1) = insE (new1 x) (newL L0 now i) := by
  unfold newL
  rw [List.take_add_one, h]
  simp
theorem newL_inv {L0 now : List Ent} (h0 : ∀ x ∈ L0, okV x) (hn : ∀ x ∈ now, okV x) : ∀ i, (newL L0 now i).length ≤ L0.length + i ∧ ∀ x ∈ newL L0 now i, okV x
  | 0 => ⟨by simp [newL], by simpa [newL] using h0⟩
  | i + 1 => by
    obtain ⟨h1, h2⟩ := newL_inv h0 hn i
    cases hx : now[i]? with
    | none =>
      have : newL L0 now (i + 1) = newL L0 now i := by
        unfold newL
        rw [List.take_add_one, hx]
        simp
      rw [this]
      exact ⟨by omega, h2⟩
    | some x =>
      rw [newL_more hx]
      have hxm := hn x (List.mem_of_getElem? hx)
      refine ⟨?_, fun y hy => ?_⟩
      · have := insE_len (e := new1 x) (l := newL L0 now i)
        omega
      · rcases insE_mem hy with rfl | hy
        · exact okV_set hxm 1 0 (by omega) (by omega) (by omega) (by omega)
        · exact h2 y hy
theorem after_flat {σ : St} {args : List V} {v : V} (h : v.flatV = true) : after σ args v = σ := by
  unfold after
  rw [if_pos h]
theorem rupd_loop2 (n1 : Int) (R0 R1 : Ob) (z : Bool) (t : Nat) (L0 now : List Ent) (hL : ∀ x ∈ L0, okV x) (hn : ∀ x ∈ now, okV x) (hll : L0.length ≤ 64) (hnl : now.length ≤ 64) (k : List It) (Q : Env → St → Prop)
    (h : ∀ s u, s[0]? = some R0 → s[1]? = some R1 → s[2]? = some (.row [.int .i64 n1, u] 25 0 0) → 3 ≤ s.length → LW s 3 u (newL L0 now now.length) → W TT PT k [(4, .ptr 1 0 0), (6, .ptr 2 0 0), (64, SL z t (now.map Ent.row)), (65, .int .i64 now.length), (66, .int .i64 now.length)] s Q)
    (s : St) (u : V) (h0 : s[0]? = some R0) (h1 : s[1]? = some R1) (h2 : s[2]? = some (.row [.int .i64 n1, u] 25 0 0)) (h3 : 3 ≤ s.length) (hu : LW s 3 u L0) :
    W TT PT (.l [4, 6, 64, 65, 66] lp31_1 :: .b 2 :: k) [(4, .ptr 1 0 0), (6, .ptr 2 0 0), (64, SL z t (now.map Ent.row)), (65, .int .i64 now.length), (66, .int .i64 0)] s Q := by
  refine loop_w (α := Nat × V × St) (fun a => now.length - a.1) (fun a => [(4, .ptr 1 0 0), (6, .ptr 2 0 0), (64, SL z t (now.map Ent.row)), (65, .int .i64 now.length), (66, .int .i64 a.1)]) (fun a => a.2.2)
    (fun a => a.1 ≤ now.length ∧ a.2.2[0]? = some R0 ∧ a.2.2[1]? = some R1 ∧ a.2.2[2]? = some (.row [.int .i64 n1, a.2.1] 25 0 0) ∧ 3 ≤ a.2.2.length ∧ LW a.2.2 3 a.2.1 (newL L0 now a.1)) ?_ (0, u, s) ⟨by simp, h0, h1, h2, h3, hu⟩
  clear h0 h1 h2 h3 hu s u
  rintro ⟨i, u, s⟩ ⟨hi, h0, h1, h2, h3, hg⟩ ih
  simp only at hi h0 h1 h2 h3 hg ih
  refine w_rep (by delta lp31_1; exact rfl) ?_
  rcases Nat.lt_or_ge i now.length with hlt | hge
  · obtain ⟨x, hx, -, hm⟩ := at_some hlt
    have hxv := hn x hm
    have hxl := entB_len hxv
    obtain ⟨m1, m2⟩ := newL_inv hL hn i
    have hp := place_fn true 0 (newL L0 now i) x (by omega) (okE_of m2) (by omega)
    have hmore := newL_more (L0 := L0) hx
    have g0 : ∀ X : Ob, (s ++ [X])[2]? = some (.row [.int .i64 n1, u] 25 0 0) := fun X => get_app_some h2
    have hg' : ∀ X : Ob, LW (s ++ [X]) 3 u (newL L0 now i) := fun X => lw_push hg
    have hcell := lw_cell hg
    cases ht : thereE x (newL L0 now i)
    · rw [ht] at hp
      have hq := put_fn true 0 (newL L0 now i) (placeE x (newL L0 now i)) { x with seen := 1, missed := 0 } (placeE_le ..) (by omega) (by show x.sites.length ≤ _; omega)
      have hins : insE (new1 x) (newL L0 now i) = (newL L0 now i).take (placeE x (newL L0 now i)) ++ ({ x with seen := 1, missed := 0 } : Ent).own :: (newL L0 now i).drop (placeE x (newL L0 now i)) := by
        unfold insE
        rw [thereE_new, placeE_new, ht]
        rfl
      rw [← hins, ← hmore] at hq
      simp only [ent_def] at hp hq
      rw [show Ent.sl ⟨x.kind, x.sites, 1, 0, x.z, x.t⟩ = x.sl from rfl] at hq
      simp only [go_sem, Nat.reduceEqDiff, reduceIte, Nat.reduceAdd, Nat.reduceMul, Nat.reduceLeDiff, Int.reduceLT, Int.reduceLE, Int.reduceToNat, Int.reduceAdd, Int.reduceNeg, Int.reduceEq, lt_t hlt, List.getElem?_map, hx, g0]
      refine wx_fz (.cons (ov_cell (lw_oc (hg' _)) hcell) (.cons (ov_set (by simp only [go_sem])) .nil)) hp (after_flat rfl) ?_
      simp only [go_sem, Nat.reduceEqDiff, reduceIte, Nat.reduceAdd, Nat.reduceMul, Nat.reduceLeDiff, Int.reduceLT, Int.reduceLE, Int.reduceToNat, Int.reduceAdd, Int.reduceNeg, Int.reduceEq, g0]
      obtain ⟨σ', ea, el, eo⟩ := lw_after (hg' (.row [.int .i64 x.kind, x.sl, .int .i64 1, .int .i64 0] 32 0 0)) (args := [u, .int .i64 (placeE x (newL L0 now i) : Int), .agg [.int .i64 x.kind, x.sl, .int .i64 1, .int .i64 0]]) (v := SL true 0 ((newL L0 now (i + 1)).map Ent.row)) (by simp [refsL, V.refs, rowB_refs (ents_row x)])
      refine wx_fz (.cons (ov_cell (lw_oc (hg' _)) hcell) (.cons (ov_set rfl) (.cons (ov_set (by simp only [go_sem])) .nil))) hq ea ?_
      have e2 : σ'[2]? = some (.row [.int .i64 n1, u] 25 0 0) := (eo 2 (by omega)).trans (g0 _)
      simp at el
      simp only [go_sem, Nat.reduceEqDiff, reduceIte, Nat.reduceAdd, Nat.reduceMul, Nat.reduceLeDiff, Int.reduceLT, Int.reduceLE, Int.reduceToNat, Int.reduceAdd, Int.reduceNeg, Int.reduceEq, e2, inc64 (show i < 9223372036854775807 by omega)]
      refine W_keep (ih (i + 1, SL true 0 ((newL L0 now (i + 1)).map Ent.row), σ'.set 2 (.row [.int .i64 n1, SL true 0 ((newL L0 now (i + 1)).map Ent.row)] 25 0 0)) (by simp; omega) ⟨by simp; omega, ?_, ?_, ?_, by simp; omega, .inr rfl⟩) rfl
      · rw [List.getElem?_set_ne (by omega), eo 0 (by omega)]; exact get_app_some h0
      · rw [List.getElem?_set_ne (by omega), eo 1 (by omega)]; exact get_app_some h1
      · rw [List.getElem?_set_self (by omega)]
    · rw [ht] at hp
      have hins : newL L0 now (i + 1) = newL L0 now i := by
        rw [hmore]
        unfold insE
        rw [thereE_new, ht, if_pos rfl]
      simp only [ent_def] at hp
      simp only [go_sem, Nat.reduceEqDiff, reduceIte, Nat.reduceAdd, Nat.reduceMul, Nat.reduceLeDiff, Int.reduceLT, Int.reduceLE, Int.reduceToNat, Int.reduceAdd, Int.reduceNeg, Int.reduceEq, lt_t hlt, List.getElem?_map, hx, g0]
      refine wx_fz (.cons (ov_cell (lw_oc (hg' _)) hcell) (.cons (ov_set (by simp only [go_sem])) .nil)) hp (after_flat rfl) ?_
      simp only [go_sem, Nat.reduceEqDiff, reduceIte, Nat.reduceAdd, Nat.reduceMul, Nat.reduceLeDiff, Int.reduceLT, Int.reduceLE, Int.reduceToNat, Int.reduceAdd, Int.reduceNeg, Int.reduceEq, inc64 (show i < 9223372036854775807 by omega)]
      refine W_keep (ih (i + 1, u, _) (by simp; omega) ⟨by simp; omega, get_app_some h0, get_app_some h1, get_app_some h2, by simp; omega, ?_⟩) rfl
      simp only [hins]
      exact hg' _
  · obtain rfl : i = now.length := by omega
    simp only [go_sem, Nat.reduceEqDiff, reduceIte, Nat.reduceAdd, Nat.reduceMul, Nat.reduceLeDiff, Int.reduceLT, Int.reduceLE, Int.reduceToNat, Int.reduceAdd, Int.reduceNeg, Int.reduceEq, lt_f hge]
    exact h s u h0 h1 h2 h3 hg
end Go.Proofs.YticpkkjnajmpoaaGreatDoor.KM
